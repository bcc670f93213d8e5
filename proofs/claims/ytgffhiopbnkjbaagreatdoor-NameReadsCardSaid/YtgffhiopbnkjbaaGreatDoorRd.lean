/-
  The reference of the layer 14: ReadStep. The reference of the layer 14: Read, Parse. The reference of the layer 4: Right, Compare, Same. For a drawn region that is walked operation by operation: the operation at a place of a row that is written out. The reference of the layer 14: Like. What names of one part mean: plain laws: a text of another kind with the same signs means the same; another type does not. The chapter's example of names: closed facts. The walk of the names' example. The walk of NameReads: it answers true.
-/
import Derived.Test.YtgffhiopbnkjbaaGreatDoorRc
import Derived.Test.YtgffhiopbnkjbaaGreatDoorRa
namespace Go.Proofs.YtgffhiopbnkjbaaGreatDoor
open Go Go.RowKit Go.Q
set_option linter.unusedSimpArgs false

/-- What the reference's ReadStep gives. -/
def rStepOut (K : Nat → Prop) (w' : World) (p : Nat) (r : Except Int (List Part × Nat)) (e : Ending) : Prop :=
  match r with
  | .error x => e = .returned (.tuple #[.slice none 0 0, .int .i64 p, .int .i64 x])
  | .ok (l, k) => ∃ a c, e = .returned (.tuple #[.slice a l.length c, .int .i64 ((p + k : Nat) : Int), .int .i64 0]) ∧ Kept (fun W => Attrs W (.slice a l.length c) l) K w'
theorem rdnRead_nz {l : List UInt8} {x : Int} (h : rdnReadS l = .error x) : x ≠ 0 := by
  have part : ∀ {l : List UInt8} {x : Int}, partReadS l = .error x → x ≠ 0 := fun {l x} h => by
    unfold partReadS at h
    split at h
    · rename_i hx
      cases h
      exact openS_nz hx
    split at h
    · rename_i hx
      cases h
      exact oidRead_nz hx
    split at h
    · rename_i hx
      cases h
      exact oneS_nz hx
    split at h
    · cases h; decide
    · cases h
  have go : ∀ (f : Nat) (out : List Part) (last l : List UInt8) (x : Int), l.length ≤ f → rdnGoS f out last l = .error x → x ≠ 0 := fun f => by
    induction f with
    | zero =>
      intro out last l x hl h
      obtain rfl : l = [] := List.length_eq_zero_iff.1 (by omega)
      simp only [rdnGoS] at h
      split at h
      · cases h; decide
      · cases h
    | succ f ih =>
      intro out last l x hl h
      cases l with
      | nil =>
        simp only [rdnGoS] at h
        split at h
        · cases h; decide
        · cases h
      | cons y t =>
        simp only [rdnGoS] at h
        split at h
        · cases h; decide
        split at h
        · rename_i hx
          cases h
          exact part hx
        rename_i q m hx
        have hb := partRead_back hx
        split at h
        · cases h; decide
        split at h
        · cases h; decide
        exact ih _ _ _ _ (by simp only [List.length_drop, List.length_cons] at hl ⊢; omega) h
  unfold rdnReadS at h
  split at h
  · rename_i hx
    cases h
    exact openS_nz hx
  split at h
  · rename_i hx
    cases h
    exact go _ _ _ _ _ (Nat.le_refl _) hx
  · cases h

set_option maxRecDepth 100000 in
set_option maxHeartbeats 8000000 in
theorem r14ReadStep_any (v : Value) (l : List UInt8) (p : Nat) (K : Nat → Prop) (w : World) (h : Kept (fun W => Bytes W v l) K w) (hK : ∀ k, K k → k < w.heap.size) (hp : p ≤ l.length) (hlm : l.length ≤ 10000000) :
    Calls Tryz.prog 34 #[v, .int .i64 p] w fun e w' => rStepOut K w' p (rdnReadS (l.drop p)) e ∧ Fr (fun _ => False) w w' := by
  have H := Lib.hid h
  have HK := Lib.hid hK
  clear h hK
  go_enter Tryz.func34, Tryz.ntmps34
  go_wp2_with fail
  refine (r02Of_any 17 _).mono ?_
  rintro e w1 ⟨rfl, F1⟩
  have HO := Lib.hid (r02Open_any v l p (tagOf 17) w1 (H.out.old F1).now hp (by omega))
  have HF1 := Lib.hid F1
  clear F1
  go_wp2_with fail
  refine HO.out.mono ?_
  rintro e w2 ⟨hout, F2⟩
  have HF2 := Lib.hid (HF1.out.trans F2)
  clear HO F2 HF1
  unfold rOpenOut at hout
  cases ho : openS (tagOf 17) (l.drop p) with
  | error x =>
    have hx := openS_nz ho
    have hx1 : (x == 0) = false := beq_eq_false_iff_ne.2 hx
    have hx2 : (x != 0) = true := by simpa using hx
    have HP := Lib.hid (rdnRead_e1 ho)
    rw [ho] at hout
    subst hout
    clear ho hx
    go_wp2_with fail
    refine bodyPost_ret (v := .tuple #[.slice none 0 0, .int .i64 p, .int .i64 x]) (by simp [results, Tryz.results34, go_sem]) rfl ⟨?_, HF2.out⟩
    rw [HP.out]
    rfl
  | ok yk =>
    obtain ⟨y, k⟩ := yk
    rw [ho] at hout
    obtain ⟨A, c, rfl, hby⟩ := hout
    obtain ⟨hob1, hob2, hob3, hob4⟩ := open_back ho tag17
    rw [List.length_drop] at hob3
    have hyl : y.length ≤ 10000000 := by omega
    have HP := Lib.hid ho
    have HBY := Lib.hid hby
    obtain ⟨s, hs⟩ : ∃ s, s = p + k := ⟨_, rfl⟩
    rw [← hs]
    have HS := Lib.hid hs
    clear ho hby hs hob1 hob2 hob3 hob4
    go_wp2_with fail
    go_loopg [10, 11, 12] y.length (fun gk u lv pp wr => ∃ (out : List Part) (lst : List UInt8) (q : Nat) (a : Option Addr) (cc : Nat) (al : Option Addr) (nl cl : Nat), gk = y.length - q ∧ q ≤ y.length ∧ out.length ≤ 16 ∧ u = .slice a out.length cc ∧ lv = .slice al nl cl ∧ pp = .int .i64 q ∧ GRow 2 RPart K 63 wr w.heap.size (.slice a out.length cc) out ∧ (∀ W, Bytes W (.slice A y.length c) y → Bytes W (.slice al nl cl) lst) ∧ Fr (fun _ => False) w wr ∧ rdnSt [] [] y = rdnSt out lst (y.drop q))
    case atStart => exact ⟨[], [], 0, none, 0, none, 0, 0, rfl, Nat.zero_le _, by simp, rfl, rfl, rfl, GRow.nil _ _ _ _ _ _, fun W _ => Vals.nil W, HF2.out, rfl⟩
    case round =>
      obtain ⟨out, lst, q, a, cc, al, nl, cl, hgk, hq, ho16, rfl, rfl, rfl, hrow, hlst, hF, hR⟩ := hrel
      have HG := Lib.hid hgk
      have HRW := Lib.hid hrow
      have HLS := Lib.hid hlst
      have HF := Lib.hid hF
      have HR := Lib.hid hR
      have HVX := Lib.hid (fun W (f : Fr (fun _ => False) w W) => HBY.out W (H.out.old f).now)
      clear hgk hrow hlst hF hR HF2
      by_cases hql : q < y.length
      · have q1 : (q : Int) < (y.length : Int) := by omega
        have HLQ := Lib.hid hql
        by_cases h16 : out.length = 16
        · have q3 : ((out.length : Int) == 16) = true := by rw [h16]; rfl
          have q4 : (out.length == 16) = true := by rw [h16]; rfl
          have hr := HR.out
          rw [rdnSt_full (drop_ne hql) h16] at hr
          have HP2 := Lib.hid (rdnRead_e2 HP.out hr)
          clear hr HR HP h16
          go_wp2_with fail
          refine bodyPost_ret (v := .tuple #[.slice none 0 0, .int .i64 p, .int .i64 2]) (by simp [results, Tryz.results34, go_sem]) rfl ⟨?_, HF.out⟩
          rw [HP2.out]
          rfl
        · have q3 : ((out.length : Int) == 16) = false := beq_eq_false_iff_ne.2 (by omega)
          have q4 : (out.length == 16) = false := beq_eq_false_iff_ne.2 h16
          have H16 := Lib.hid h16
          clear h16
          go_wp2_with fail
          refine (r02Of_any 16 _).mono ?_
          rintro e w4 ⟨rfl, F4⟩
          have HF4 := Lib.hid (HF.out.trans F4)
          have HRW4 := Lib.hid (HRW.out.old F4)
          have HO := Lib.hid (r02Open_any _ y q (tagOf 16) w4 (HVX.out _ HF4.out) hq (by omega))
          clear F4 HF HRW
          go_wp2_with fail
          refine HO.out.mono ?_
          rintro e w5 ⟨hout, F5⟩
          have HF5 := Lib.hid (HF4.out.trans F5)
          have HRW5 := Lib.hid (HRW4.out.old F5)
          clear HO F5 HF4 HRW4
          unfold rOpenOut at hout
          cases ho : openS (tagOf 16) (y.drop q) with
          | error x =>
            have hx := openS_nz ho
            have hx1 : (x == 0) = false := beq_eq_false_iff_ne.2 hx
            have hx2 : (x != 0) = true := by simpa using hx
            have hr := HR.out
            rw [rdnSt_err (drop_ne HLQ.out) H16.out (partRead_e1 ho)] at hr
            have HP2 := Lib.hid (rdnRead_e2 HP.out hr)
            rw [ho] at hout
            subst hout
            clear ho hx hr HR HP
            go_wp2_with fail
            refine bodyPost_ret (v := .tuple #[.slice none 0 0, .int .i64 p, .int .i64 x]) (by simp [results, Tryz.results34, go_sem]) rfl ⟨?_, HF5.out⟩
            rw [HP2.out]
            rfl
          | ok zk =>
            obtain ⟨z, m⟩ := zk
            rw [ho] at hout
            obtain ⟨A2, c2, rfl, hbz⟩ := hout
            obtain ⟨hob1, hob2, hob3, hob4⟩ := open_back ho tag16
            rw [List.length_drop] at hob3
            have hzl : z.length ≤ 10000000 := by omega
            have hqm : q + m ≤ y.length := by omega
            have HP1 := Lib.hid ho
            have HBZ := Lib.hid (fun W (f : Fr (fun _ => False) w W) => hbz W (HVX.out W f))
            have HBZK := Lib.hid (fun W (hW : Bytes W v l) => hbz W (HBY.out W hW))
            obtain ⟨s2, hs2⟩ : ∃ s2, s2 = q + m := ⟨_, rfl⟩
            rw [← hs2]
            have HS2 := Lib.hid hs2
            have HM1 := Lib.hid (show 1 ≤ m from by omega)
            have HRO := Lib.hid (r04Read_any _ z 0 w5 (HBZ.out _ HF5.out) (Nat.zero_le _) (by omega))
            rw [List.drop_zero] at HRO
            clear ho hbz hs2 hob1 hob2 hob3 hob4
            go_wp2_with fail
            refine HRO.out.mono ?_
            rintro e w6 ⟨hout, F6⟩
            have HF6 := Lib.hid (HF5.out.trans F6)
            have HRW6 := Lib.hid (HRW5.out.old F6)
            have HK5 := Lib.hid HRW5.out.keep
            have hs5 := HF5.out.size
            have hs6 := F6.size
            clear HRO F6 HF5 HRW5
            unfold rOidOut at hout
            cases hoo : oidReadS z with
            | error x =>
              have hx := oidRead_nz hoo
              have hx1 : (x == 0) = false := beq_eq_false_iff_ne.2 hx
              have hx2 : (x != 0) = true := by simpa using hx
              have hr := HR.out
              rw [rdnSt_err (drop_ne HLQ.out) H16.out (partRead_e2 HP1.out hoo)] at hr
              have HP2 := Lib.hid (rdnRead_e2 HP.out hr)
              rw [hoo] at hout
              subst hout
              clear hoo hx hr HR HP
              go_wp2_with fail
              refine bodyPost_ret (v := .tuple #[.slice none 0 0, .int .i64 p, .int .i64 x]) (by simp [results, Tryz.results34, go_sem]) rfl ⟨?_, HF6.out⟩
              rw [HP2.out]
              rfl
            | ok oq =>
              obtain ⟨o, qz⟩ := oq
              rw [hoo] at hout
              obtain ⟨ao, co, rfl, hown⟩ := hout
              rw [Nat.zero_add]
              obtain ⟨ho1, ho2, ho3, ho4⟩ := oidRead_back hoo
              have HP1b := Lib.hid hoo
              have HOW := Lib.hid hown
              have HRD := Lib.hid (r02Read_any _ z qz w6 (HBZ.out _ HF6.out) ho3 (by omega))
              clear hoo hown ho1 ho2 ho4
              go_wp2_with fail
              refine HRD.out.mono ?_
              rintro e w7 ⟨rfl, F7⟩
              have HF7 := Lib.hid (HF6.out.trans F7)
              have HRW7 := Lib.hid (HRW6.out.old F7)
              have HOW7 := Lib.hid (ownsRow_fr HOW.out F7 (fun _ _ h => h))
              have hs7 := F7.size
              clear HRD F7 HF6 HRW6 HOW
              cases hrd : readS (z.drop qz) with
              | error x =>
                have hx : x ≠ 0 := readS_err hrd
                have hx1 : (x == 0) = false := beq_eq_false_iff_ne.2 hx
                have hx2 : (x != 0) = true := by simpa using hx
                have hr := HR.out
                rw [rdnSt_err (drop_ne HLQ.out) H16.out (partRead_e3 HP1.out HP1b.out (oneE hrd))] at hr
                have HP2 := Lib.hid (rdnRead_e2 HP.out hr)
                rw [show rReadV qz (.error x) = .tuple #[.agg #[.int .i64 0, .int .i64 0, .bool false], .int .i64 0, .int .i64 qz, .int .i64 x] from rfl]
                clear hrd hx hr HR HP
                go_wp2_with fail
                refine bodyPost_ret (v := .tuple #[.slice none 0 0, .int .i64 p, .int .i64 x]) (by simp [results, Tryz.results34, go_sem]) rfl ⟨?_, HF7.out.alloc _⟩
                rw [HP2.out]
                rfl
              | ok tnk =>
                obtain ⟨⟨t1, t2, t3⟩, n, kz⟩ := tnk
                rw [show rReadV qz (.ok (⟨t1, t2, t3⟩, n, kz)) = .tuple #[.agg #[.int .i64 t1, .int .i64 t2, .bool t3], .int .i64 n, .int .i64 ((qz + kz : Nat) : Int), .int .i64 0] from rfl]
                have hkz := (readS_le hrd).1
                have hn16 := (readS_le hrd).2
                rw [List.length_drop] at hkz
                obtain ⟨rz, hrz⟩ : ∃ rz, rz = qz + kz := ⟨_, rfl⟩
                rw [← hrz]
                have hrzl : rz ≤ z.length := by omega
                have F8 : Fr (fun _ => False) w7 (w7.alloc (.cells #[.int .i64 t1, .int .i64 t2, .bool t3] 36)) := (Fr.refl w7).alloc _
                have HF8 := Lib.hid (HF7.out.trans F8)
                have HRW8 := Lib.hid (HRW7.out.old F8)
                have HOW8 := Lib.hid (ownsRow_fr HOW7.out F8 (fun _ _ h => h))
                have hs8 := F8.size
                have HRD := Lib.hid hrd
                have HRZ := Lib.hid hrz
                clear hrd hrz F8 HF7 HRW7 HOW7 hkz
                go_upto_region 17 with fail
                generalize (w7.alloc (.cells #[.int .i64 t1, .int .i64 t2, .bool t3] 36)) = w8 at *
                by_cases h3 : z.length - rz < n
                · have q5 : (z.length : Int) - (rz : Int) < (n : Int) := by omega
                  have hr := HR.out
                  rw [rdnSt_err (drop_ne HLQ.out) H16.out (partRead_e3 HP1.out HP1b.out (oneEnd HRD.out (by rw [List.length_drop]; have := HRZ.out; omega)))] at hr
                  have HP2 := Lib.hid (rdnRead_e2 HP.out hr)
                  clear hr HR HP h3
                  go_wp2_with fail
                  refine bodyPost_ret (v := .tuple #[.slice none 0 0, .int .i64 p, .int .i64 3]) (by simp [results, Tryz.results34, go_sem]) rfl ⟨?_, HF8.out⟩
                  rw [HP2.out]
                  rfl
                · have q5 : ¬ (z.length : Int) - (rz : Int) < (n : Int) := by omega
                  have hpr := partRead_ok HP1.out HP1b.out (oneOk HRD.out (by rw [List.length_drop]; have := HRZ.out; omega))
                  by_cases h7 : n < z.length - rz
                  · have q6 : (n : Int) < (z.length : Int) - (rz : Int) := by omega
                    rw [if_pos (by have := HRZ.out; omega)] at hpr
                    have hr := HR.out
                    rw [rdnSt_err (drop_ne HLQ.out) H16.out hpr] at hr
                    have HP2 := Lib.hid (rdnRead_e2 HP.out hr)
                    clear hr HR HP h3 h7 hpr
                    go_wp2_with fail
                    refine bodyPost_ret (v := .tuple #[.slice none 0 0, .int .i64 p, .int .i64 7]) (by simp [results, Tryz.results34, go_sem]) rfl ⟨?_, HF8.out⟩
                    rw [HP2.out]
                    rfl
                  · have q6 : ¬ (n : Int) < (z.length : Int) - (rz : Int) := by omega
                    rw [if_neg (by have := HRZ.out; omega)] at hpr
                    have hr := HR.out
                    rw [rdnSt_ok H16.out hpr] at hr
                    obtain ⟨one, hone⟩ : ∃ one, one = (y.drop q).take m := ⟨_, rfl⟩
                    rw [← hone, List.drop_drop] at hr
                    have HRR := Lib.hid hr
                    obtain ⟨B1, hsl1, hb1⟩ := bytes_mid (HVX.out _ HF8.out) q m hqm
                    obtain ⟨B2, hsl2, hb2⟩ := bytes_rest (HBZ.out _ HF8.out) qz ho3
                    rw [← hone] at hb1
                    rw [show q + m = s2 from HS2.out.symm] at hsl1 HRR
                    have HB1 := Lib.hid hb1
                    have HB2 := Lib.hid hb2
                    have HSL2 := Lib.hid hsl2
                    have HC := Lib.hid (r01Compare_any _ _ lst one w8 (HLS.out _ (HVX.out _ HF8.out)) (hb1 _ (HVX.out _ HF8.out)))
                    have hways : out.length = 0 ∨ (out.length ≠ 0 ∧ cmpS lst one = 0) ∨ (out.length ≠ 0 ∧ cmpS lst one = 1) ∨ (out.length ≠ 0 ∧ cmpS lst one = -1) := by
                      have := cmpS_three lst one
                      omega
                    have HONE := Lib.hid hone
                    clear hpr hr HR h3 h7 hone hb1 hb2 hsl2
                    rcases hways with h0 | ⟨h0, hc⟩ | ⟨h0, hc⟩ | ⟨h0, hc⟩
                    case inr.inl =>
                      have hrr := HRR.out
                      rw [if_pos ⟨h0, hc⟩] at hrr
                      have HP2 := Lib.hid (rdnRead_e2 HP.out hrr)
                      rw [hc] at HC
                      have q7 : (0 : Int) < (out.length : Int) := by omega
                      have q8 : 0 < out.length := by omega
                      clear hrr HRR hc h0
                      go_wp2_with fail
                      refine HC.out.mono ?_
                      rintro e w9 ⟨rfl, F9⟩
                      have HF9 := Lib.hid (HF8.out.trans F9)
                      clear F9
                      go_wp2_with fail
                      refine bodyPost_ret (v := .tuple #[.slice none 0 0, .int .i64 p, .int .i64 10]) (by simp [results, Tryz.results34, go_sem]) rfl ⟨?_, HF9.out⟩
                      rw [HP2.out]
                      rfl
                    case inr.inr.inl =>
                      have hrr := HRR.out
                      rw [if_neg (by rw [hc]; simp), if_pos ⟨h0, by rw [hc]; decide⟩] at hrr
                      have HP2 := Lib.hid (rdnRead_e2 HP.out hrr)
                      rw [hc] at HC
                      have q7 : (0 : Int) < (out.length : Int) := by omega
                      have q8 : 0 < out.length := by omega
                      clear hrr HRR hc h0
                      go_wp2_with fail
                      refine HC.out.mono ?_
                      rintro e w9 ⟨rfl, F9⟩
                      have HF9 := Lib.hid (HF8.out.trans F9)
                      clear F9
                      go_wp2_with fail
                      refine bodyPost_ret (v := .tuple #[.slice none 0 0, .int .i64 p, .int .i64 9]) (by simp [results, Tryz.results34, go_sem]) rfl ⟨?_, HF9.out⟩
                      rw [HP2.out]
                      rfl
                    case' inl =>
                      have hrr := HRR.out
                      rw [if_neg (fun h => h.1 h0), if_neg (fun h => h.1 h0)] at hrr
                      have HRN := Lib.hid hrr
                      have q7 : ¬ (0 : Int) < (out.length : Int) := by omega
                      have q8 : ¬ 0 < out.length := by omega
                      obtain ⟨w9, hw9⟩ : ∃ w9 : World, w9 = w8 := ⟨_, rfl⟩
                      have F9 : Fr (fun _ => False) w8 w9 := by rw [hw9]; exact Fr.refl _
                      have HF9 := Lib.hid (HF8.out.trans F9)
                      have HRW9 := Lib.hid (HRW8.out.old F9)
                      have HOW9 := Lib.hid (ownsRow_fr HOW8.out F9 (fun _ _ h => h))
                      have hs9 := F9.size
                      clear hrr HRR h0 F9
                      rw [← hw9]
                      clear hw9
                      go_upto_region 30 with fail
                    case' inr.inr.inr =>
                      have hrr := HRR.out
                      rw [if_neg (by rw [hc]; simp), if_neg (by rw [hc]; simp)] at hrr
                      have HRN := Lib.hid hrr
                      rw [hc] at HC
                      have q7 : (0 : Int) < (out.length : Int) := by omega
                      have q8 : 0 < out.length := by omega
                      clear hrr HRR hc h0
                      go_wp2_with fail
                      refine HC.out.mono ?_
                      rintro e w9 ⟨rfl, F9⟩
                      have HF9 := Lib.hid (HF8.out.trans F9)
                      have HRW9 := Lib.hid (HRW8.out.old F9)
                      have HOW9 := Lib.hid (ownsRow_fr HOW8.out F9 (fun _ _ h => h))
                      have hs9 := F9.size
                      clear F9
                      go_upto_region 30 with fail
                    all_goals
                      clear HF8 HRW8 HOW8 HC hsl1
                      have hsl2 := HSL2.out
                      have hk5 := HK5.out
                      have hkk := HK.out
                      have hsb := HF9.out.size
                      obtain ⟨a7, c7, w7', hrun, hrow7, F7', hown7⟩ := GRow.add (s := 60) Tryz.underlying60 info63 rfl (by decide) (by decide) HRW9.out HF9.out.size ((Fr.refl w9).alloc (.cells #[.slice ao o.length co, .slice B2 (z.length - qz) (c2 - qz)] 63)) w9.heap.size [.slice ao o.length co, .slice B2 (z.length - qz) (c2 - qz)] rfl (Blk.new w9 _ _) (by intro u hu; simp at hu; rcases hu with rfl | rfl <;> rfl) ⟨o, z.drop qz⟩ (fun W f => ⟨_, _, rfl, own_kept' HOW9.out (fun k => (Value.slice a out.length cc).ownBlock = some k ∨ K k) (fun k hk => by
                        rcases hk with hk | hk
                        · exact (hk5 k hk).2
                        · have := hkk k hk; omega) W f, HB2.out W (HBZK.out W ((H.out.step (K' := fun k => (Value.slice a out.length cc).ownBlock = some k ∨ K k) HF9.out (fun _ _ h => h.elim) (fun k hk => by
                        rcases hk with hk | hk
                        · exact .inr (hk5 k hk).1
                        · exact .inl hk)) W f))⟩) (by omega)
                      have HF7 := Lib.hid (HF9.out.trans' F7' (fun i hi e => by have := (hk5 i e).1; omega))
                      have HRUN := Lib.hid hrun
                      have HRW7 := Lib.hid hrow7
                      have hs2m : y.length - s2 < y.length - q := by have := HS2.out; have := HM1.out; omega
                      have HSM := Lib.hid hs2m
                      have hs2l : s2 ≤ y.length := by have := HS2.out; omega
                      have ho15 : out.length + 1 ≤ 16 := by have := H16.out; omega
                      clear hrun hrow7 F7' hown7 hk5 hkk HRW9 HOW9 hs2m
                      go_wp2_with (at_builtin; refine wpList_append_run (by rfl) (.tmp 109) (.tmp 115) 60 (by rfl) _ w7' (by exact HRUN.out) ?_)
                      go_roundg (y.length - s2)
                      case measure => rw [HG.out]; exact HSM.out
                      case rel => exact ⟨out ++ [⟨o, z.drop qz⟩], one, s2, a7, c7, _, _, _, rfl, hs2l, by rw [List.length_append]; exact ho15, by rw [List.length_append]; rfl, rfl, rfl, by rw [List.length_append]; exact HRW7.out, HB1.out, HF7.out, HRN.out⟩
      · obtain rfl : q = y.length := by omega
        have q1 : ¬ (y.length : Int) < (y.length : Int) := by omega
        have hr := HR.out
        rw [List.drop_length, rdnSt_end] at hr
        by_cases h0 : out.length = 0
        · have q5 : ((out.length : Int) == 0) = true := by rw [h0]; rfl
          have q6 : (out.length == 0) = true := by rw [h0]; rfl
          rw [if_pos h0] at hr
          have HP2 := Lib.hid (rdnRead_e2 HP.out hr)
          clear hr HR HP h0
          go_wp2_with fail
          refine bodyPost_ret (v := .tuple #[.slice none 0 0, .int .i64 p, .int .i64 6]) (by simp [results, Tryz.results34, go_sem]) rfl ⟨?_, HF.out⟩
          rw [HP2.out]
          rfl
        · have q5 : ((out.length : Int) == 0) = false := beq_eq_false_iff_ne.2 (by omega)
          have q6 : (out.length == 0) = false := beq_eq_false_iff_ne.2 h0
          rw [if_neg h0] at hr
          have HP2 := Lib.hid (rdnRead_ok HP.out hr)
          have HK4 := Lib.hid (HRW.out.kept (by decide) K (fun k hk => ⟨hk, HK.out k hk⟩))
          clear hr HR HP h0
          go_wp2_with fail
          refine bodyPost_ret (v := .tuple #[.slice a out.length cc, .int .i64 s, .int .i64 0]) (by simp [results, Tryz.results34, go_sem]) rfl ⟨?_, HF.out⟩
          rw [HP2.out]
          exact ⟨a, cc, by rw [HS.out], HK4.out.imp (fun W h => h.attrs)⟩
end Go.Proofs.YtgffhiopbnkjbaaGreatDoor

namespace Go.Q
open Go Go.RowKit
theorem nameRead_nz {l : List UInt8} {x : Int} (h : nameReadS l = .error x) : x ≠ 0 := by
  have go : ∀ (f : Nat) (out : List (List Part)) (l : List UInt8) (x : Int), l.length ≤ f → nameGoS f out l = .error x → x ≠ 0 := fun f => by
    induction f with
    | zero =>
      intro out l x hl h
      obtain rfl : l = [] := List.length_eq_zero_iff.1 (by omega)
      cases h
    | succ f ih =>
      intro out l x hl h
      cases l with
      | nil => cases h
      | cons y t =>
        simp only [nameGoS] at h
        split at h
        · cases h; decide
        split at h
        · rename_i hx
          cases h
          exact Go.Proofs.YtgffhiopbnkjbaaGreatDoor.rdnRead_nz hx
        rename_i q m hx
        have hb := rdnRead_len hx
        exact ih _ _ _ (by simp only [List.length_drop, List.length_cons] at hl ⊢; omega) h
  unfold nameReadS at h
  split at h
  · rename_i hx
    cases h
    exact openS_nz hx
  split at h
  · rename_i hx
    cases h
    exact go _ _ _ _ (Nat.le_refl _) hx
  · cases h
end Go.Q
namespace Go.Proofs.YtgffhiopbnkjbaaGreatDoor
open Go Go.RowKit Go.Q
set_option linter.unusedSimpArgs false

/-- What the reference's Read gives. -/
def rNameOut (K : Nat → Prop) (w' : World) (p : Nat) (r : Except Int (List (List Part) × Nat)) (e : Ending) : Prop :=
  match r with
  | .error x => e = .returned (.tuple #[.slice none 0 0, .int .i64 p, .int .i64 x])
  | .ok (l, k) => ∃ a c, e = .returned (.tuple #[.slice a l.length c, .int .i64 ((p + k : Nat) : Int), .int .i64 0]) ∧ Kept (fun W => NameAt W (.slice a l.length c) l) K w'

set_option maxRecDepth 20000 in
set_option maxHeartbeats 4000000 in
theorem r14Read_any (v : Value) (l : List UInt8) (p : Nat) (K : Nat → Prop) (w : World) (h : Kept (fun W => Bytes W v l) K w) (hK : ∀ k, K k → k < w.heap.size) (hp : p ≤ l.length) (hlm : l.length ≤ 10000000) :
    Calls Tryz.prog 32 #[v, .int .i64 p] w fun e w' => rNameOut K w' p (nameReadS (l.drop p)) e ∧ Fr (fun _ => False) w w' := by
  have H := Lib.hid h
  have HK := Lib.hid hK
  clear h hK
  go_enter Tryz.func32, Tryz.ntmps32
  go_wp2_with fail
  refine (r02Of_any 16 _).mono ?_
  rintro e w1 ⟨rfl, F1⟩
  have HO := Lib.hid (r02Open_any v l p (tagOf 16) w1 (H.out.old F1).now hp (by omega))
  have HF1 := Lib.hid F1
  clear F1
  go_wp2_with fail
  refine HO.out.mono ?_
  rintro e w2 ⟨hout, F2⟩
  have HF2 := Lib.hid (HF1.out.trans F2)
  clear HO F2 HF1
  unfold rOpenOut at hout
  cases ho : openS (tagOf 16) (l.drop p) with
  | error x =>
    have hx := openS_nz ho
    have hx1 : (x == 0) = false := beq_eq_false_iff_ne.2 hx
    have hx2 : (x != 0) = true := by simpa using hx
    have HP := Lib.hid (nameRead_e1 ho)
    rw [ho] at hout
    subst hout
    clear ho hx
    go_wp2_with fail
    refine bodyPost_ret (v := .tuple #[.slice none 0 0, .int .i64 p, .int .i64 x]) (by simp [results, Tryz.results32, go_sem]) rfl ⟨?_, HF2.out⟩
    rw [HP.out]
    rfl
  | ok yk =>
    obtain ⟨y, k⟩ := yk
    rw [ho] at hout
    obtain ⟨A, c, rfl, hby⟩ := hout
    obtain ⟨hob1, hob2, hob3, hob4⟩ := open_back ho tag16
    rw [List.length_drop] at hob3
    have hyl : y.length ≤ 10000000 := by omega
    have HP := Lib.hid ho
    have HBY := Lib.hid hby
    obtain ⟨s, hs⟩ : ∃ s, s = p + k := ⟨_, rfl⟩
    rw [← hs]
    have HS := Lib.hid hs
    clear ho hby hs hob1 hob2 hob3 hob4
    go_wp2_with fail
    go_loopg [10, 11] y.length (fun gk u pp wr => ∃ (out : List (List Part)) (q : Nat) (a : Option Addr) (cc : Nat), gk = y.length - q ∧ q ≤ y.length ∧ out.length ≤ 64 ∧ u = .slice a out.length cc ∧ pp = .int .i64 q ∧ GRow 1 RStep K 60 wr w.heap.size (.slice a out.length cc) out ∧ Fr (fun _ => False) w wr ∧ nameSt [] y = nameSt out (y.drop q))
    case atStart => exact ⟨[], 0, none, 0, rfl, Nat.zero_le _, by simp, rfl, rfl, GRow.nil _ _ _ _ _ _, HF2.out, rfl⟩
    case round =>
      obtain ⟨out, q, a, cc, hgk, hq, ho64, rfl, rfl, hrow, hF, hR⟩ := hrel
      have HG := Lib.hid hgk
      have HRW := Lib.hid hrow
      have HF := Lib.hid hF
      have HR := Lib.hid hR
      clear hgk hrow hF hR HF2
      by_cases hql : q < y.length
      · have q1 : (q : Int) < (y.length : Int) := by omega
        have HLQ := Lib.hid hql
        by_cases h64 : out.length = 64
        · have q3 : ((out.length : Int) == 64) = true := by rw [h64]; rfl
          have q4 : (out.length == 64) = true := by rw [h64]; rfl
          have hr := HR.out
          rw [nameSt_full (drop_ne hql) h64] at hr
          have HP2 := Lib.hid (nameRead_e2 HP.out hr)
          clear hr HR HP h64
          go_wp2_with fail
          refine bodyPost_ret (v := .tuple #[.slice none 0 0, .int .i64 p, .int .i64 2]) (by simp [results, Tryz.results32, go_sem]) rfl ⟨?_, HF.out⟩
          rw [HP2.out]
          rfl
        · have q3 : ((out.length : Int) == 64) = false := beq_eq_false_iff_ne.2 (by omega)
          have q4 : (out.length == 64) = false := beq_eq_false_iff_ne.2 h64
          have H64 := Lib.hid h64
          have HKE := Lib.hid HRW.out.keep
          have hsf := HF.out.size
          have HSTP := Lib.hid (r14ReadStep_any (.slice A y.length c) y q (fun k => (Value.slice a out.length cc).ownBlock = some k ∨ K k) wr ((H.out.step (K' := fun k => (Value.slice a out.length cc).ownBlock = some k ∨ K k) HF.out (fun _ _ h => h.elim) (fun k hk => by
            rcases hk with hk | hk
            · exact .inr (HKE.out k hk).1
            · exact .inl hk)).imp (fun W hW => HBY.out W hW)) (fun k hk => by
            rcases hk with hk | hk
            · exact (HKE.out k hk).2
            · have := HK.out k hk; omega) hq hyl)
          clear h64
          go_wp2_with fail
          refine HSTP.out.mono ?_
          rintro e w5 ⟨hout, F5⟩
          have HF5 := Lib.hid (HF.out.trans F5)
          have HRW5 := Lib.hid (HRW.out.old F5)
          clear HSTP F5 HF HRW
          unfold rStepOut at hout
          cases ho : rdnReadS (y.drop q) with
          | error x =>
            have hx := rdnRead_nz ho
            have hx1 : (x == 0) = false := beq_eq_false_iff_ne.2 hx
            have hx2 : (x != 0) = true := by simpa using hx
            have hr := HR.out
            rw [nameSt_err (drop_ne HLQ.out) H64.out ho] at hr
            have HP2 := Lib.hid (nameRead_e2 HP.out hr)
            rw [ho] at hout
            subst hout
            clear ho hx hr HR HP
            go_wp2_with fail
            refine bodyPost_ret (v := .tuple #[.slice none 0 0, .int .i64 p, .int .i64 x]) (by simp [results, Tryz.results32, go_sem]) rfl ⟨?_, HF5.out⟩
            rw [HP2.out]
            rfl
          | ok rk =>
            obtain ⟨r, m⟩ := rk
            rw [ho] at hout
            obtain ⟨ar, cr, rfl, hkp⟩ := hout
            obtain ⟨hb1, hb2⟩ := rdnRead_len ho
            rw [List.length_drop] at hb1
            have hr := HR.out
            rw [nameSt_ok H64.out ho, List.drop_drop] at hr
            obtain ⟨s2, hs2⟩ : ∃ s2, s2 = q + m := ⟨_, rfl⟩
            rw [← hs2] at hr ⊢
            have HRN := Lib.hid hr
            have HSM := Lib.hid (show y.length - s2 < y.length - q from by omega)
            have hs2l : s2 ≤ y.length := by omega
            have ho63 : out.length + 1 ≤ 64 := by have := H64.out; omega
            have hk5 := HKE.out
            obtain ⟨a7, c7, w7', hrun, hrow7, F7', hown7⟩ := GRow.add (s := 46) Tryz.underlying46 info60 rfl (by decide) (by decide) HRW5.out HF5.out.size ((Fr.refl w5).alloc (.cells #[.slice ar r.length cr] 60)) w5.heap.size [.slice ar r.length cr] rfl (Blk.new w5 _ _) (by intro u hu; simp at hu; subst hu; rfl) r (fun W f => ⟨_, rfl, hkp W f⟩) (by omega)
            have HF7 := Lib.hid (HF5.out.trans' F7' (fun i hi e => by have := (hk5 i e).1; omega))
            have HRUN := Lib.hid hrun
            have HRW7 := Lib.hid hrow7
            clear ho hr HR hkp hb1 hb2 hs2 hrun hrow7 F7' hown7 hk5 HRW5
            go_wp2_with (at_builtin; refine wpList_append_run (by rfl) (.tmp 46) (.tmp 48) 46 (by rfl) _ w7' (by exact HRUN.out) ?_)
            go_roundg (y.length - s2)
            case measure => rw [HG.out]; exact HSM.out
            case rel => exact ⟨out ++ [r], s2, a7, c7, rfl, hs2l, by rw [List.length_append]; exact ho63, by rw [List.length_append]; rfl, rfl, by rw [List.length_append]; exact HRW7.out, HF7.out, HRN.out⟩
      · obtain rfl : q = y.length := by omega
        have q1 : ¬ (y.length : Int) < (y.length : Int) := by omega
        have hr := HR.out
        rw [List.drop_length] at hr
        have HP2 := Lib.hid (nameRead_ok HP.out (hr.trans rfl))
        have HK4 := Lib.hid (HRW.out.kept (by decide) K (fun k hk => ⟨hk, HK.out k hk⟩))
        clear hr HR HP
        go_wp2_with fail
        refine bodyPost_ret (v := .tuple #[.slice a out.length cc, .int .i64 s, .int .i64 0]) (by simp [results, Tryz.results32, go_sem]) rfl ⟨?_, HF.out⟩
        rw [HP2.out]
        exact ⟨a, cc, by rw [HS.out], HK4.out.imp (fun W h => h.name)⟩

/-- What the reference's Parse gives. -/
def rParseOut (K : Nat → Prop) (w' : World) (r : Except Int (List (List Part))) (e : Ending) : Prop :=
  match r with
  | .error x => e = .returned (.tuple #[.slice none 0 0, .int .i64 x])
  | .ok l => ∃ a c, e = .returned (.tuple #[.slice a l.length c, .int .i64 0]) ∧ Kept (fun W => NameAt W (.slice a l.length c) l) K w'

set_option maxRecDepth 20000 in
set_option maxHeartbeats 4000000 in
theorem r14Parse_any (v : Value) (l : List UInt8) (K : Nat → Prop) (w : World) (h : Kept (fun W => Bytes W v l) K w) (hK : ∀ k, K k → k < w.heap.size) (hlm : l.length ≤ 10000000) :
    Calls Tryz.prog 36 #[v] w fun e w' => rParseOut K w' (nameParseS l) e ∧ Fr (fun _ => False) w w' := by
  obtain ⟨a0, cap, rfl, -⟩ := h.now.form
  have HN := Lib.hid (r14Read_any _ l 0 K w h hK (Nat.zero_le _) hlm)
  have HPS := Lib.hid (show nameParseS l = match nameReadS l with | .error e => .error e | .ok (n, k) => if k < l.length then .error 7 else .ok n from rfl)
  rw [List.drop_zero] at HN
  clear h hK
  go_enter Tryz.func36, Tryz.ntmps36
  go_wp2_with fail
  refine HN.out.mono ?_
  rintro e w1 ⟨hout, F1⟩
  have HF1 := Lib.hid F1
  clear HN F1
  unfold rNameOut at hout
  cases hr : nameReadS l with
  | error x =>
    have hx := nameRead_nz hr
    have hx1 : (x == 0) = false := beq_eq_false_iff_ne.2 hx
    have hx2 : (x != 0) = true := by simpa using hx
    have hp := HPS.out
    rw [hr] at hp hout
    subst hout
    have HP := Lib.hid hp
    clear hr hx hp HPS
    go_wp2_with fail
    refine bodyPost_ret (v := .tuple #[.slice none 0 0, .int .i64 x]) (by simp [results, Tryz.results36, go_sem]) rfl ⟨?_, HF1.out⟩
    rw [HP.out]
    rfl
  | ok nk =>
    obtain ⟨n, k⟩ := nk
    have hp := HPS.out
    rw [hr] at hp hout
    simp only at hp
    obtain ⟨a, c, rfl, hk⟩ := hout
    have HK := Lib.hid hk
    rw [Nat.zero_add]
    clear hr hk HPS
    by_cases hkl : k < l.length
    · have q1 : (k : Int) < (l.length : Int) := by omega
      rw [if_pos hkl] at hp
      have HP := Lib.hid hp
      clear hp hkl
      go_wp2_with fail
      refine bodyPost_ret (v := .tuple #[.slice none 0 0, .int .i64 7]) (by simp [results, Tryz.results36, go_sem]) rfl ⟨?_, HF1.out⟩
      rw [HP.out]
      rfl
    · have q1 : ¬ (k : Int) < (l.length : Int) := by omega
      rw [if_neg hkl] at hp
      have HP := Lib.hid hp
      clear hp hkl
      go_wp2_with fail
      refine bodyPost_ret (v := .tuple #[.slice a n.length c, .int .i64 0]) (by simp [results, Tryz.results36, go_sem]) rfl ⟨?_, HF1.out⟩
      rw [HP.out]
      exact ⟨a, c, rfl, HK.out⟩
end Go.Proofs.YtgffhiopbnkjbaaGreatDoor

namespace Go.Proofs.YtgffhiopbnkjbaaGreatDoor
open Go Go.RowKit Go.Q

set_option maxRecDepth 20000 in
set_option maxHeartbeats 1000000 in
theorem r04Right_any (v : Value) (o : List Int) (w : World) (h : Ints w v o) :
    Calls Tryz.prog 11 #[v] w fun e w' => e = .returned (.bool (oidOk o)) ∧ w = w' := by
  obtain ⟨a, cap, rfl, hc, hm, hx⟩ := Ints.form h
  have HX := Lib.hid hx
  clear h hx
  rcases Classical.em (2 ≤ o.length ∧ o.length ≤ 32) with hl | hl
  · obtain ⟨hl1, hl2⟩ := hl
    have q1 : decide ((o.length : Int) < 2) = false := decide_eq_false (by omega)
    have q2 : decide ((32 : Int) < (o.length : Int)) = false := decide_eq_false (by omega)
    go_enter Tryz.func11, Tryz.ntmps11
    go_wp2_with fail
    go_loopg [3] o.length (fun g i wr => ∃ j : Nat, g = o.length - j ∧ j ≤ o.length ∧ i = .int .i64 j ∧ (o.take j).all arcOk = true ∧ wr = w)
    case atStart => exact ⟨0, rfl, by omega, rfl, rfl, rfl⟩
    case round =>
      obtain ⟨j, hg, hj, rfl, hall, rfl⟩ := hrel
      have HG := Lib.hid hg
      have HA := Lib.hid hall
      clear hg hall
      obtain ⟨b, off, rfl, hy⟩ := HX.out (by omega)
      by_cases hjl : j < o.length
      · obtain ⟨x, hxj⟩ : ∃ x, o[j]? = some x := ⟨_, List.getElem?_eq_getElem hjl⟩
        have ex := hy j x hxj
        have hat : (o.take (j + 1)).all arcOk = ((o.take j).all arcOk && arcOk x) := by
          rw [List.take_add_one, hxj]
          simp
        have HAT := Lib.hid hat
        have q3 : (0 : Int) ≤ (j : Int) := by omega
        have q4 : (j : Int) < (o.length : Int) := by omega
        have hbad : arcOk x = false → oidOk o = false := fun hb => by
          have : o.all arcOk = false := by
            rw [List.all_eq_false]
            exact ⟨x, List.mem_of_getElem? hxj, by simp [hb]⟩
          simp [oidOk, this]
        have HB := Lib.hid hbad
        clear hy hxj hat hbad
        rcases Classical.em (x < 0) with h0 | h0
        · have q5 : decide (x < 0) = true := decide_eq_true h0
          go_wp2_with fail
          go_ret
          exact ⟨by rw [HB.out (by simp [arcOk]; omega)]; rfl, rfl⟩
        · have q5 : decide (x < 0) = false := decide_eq_false h0
          rcases Classical.em ((2147483647 : Int) < x) with h1 | h1
          · have q6 : decide ((2147483647 : Int) < x) = true := decide_eq_true h1
            go_wp2_with fail
            go_ret
            exact ⟨by rw [HB.out (by simp [arcOk]; omega)]; rfl, rfl⟩
          · have q6 : decide ((2147483647 : Int) < x) = false := decide_eq_false h1
            go_wp2_with fail
            go_roundg (o.length - (j + 1))
            case measure => rw [HG.out]; omega
            case rel => exact ⟨j + 1, rfl, by omega, by go_num, by rw [HAT.out, HA.out]; simp [arcOk]; omega, rfl⟩
      · have hall : o.all arcOk = true := by
          have := HA.out
          rwa [List.take_of_length_le (by omega)] at this
        obtain ⟨x0, hx0⟩ : ∃ x, o[0]? = some x := ⟨_, List.getElem?_eq_getElem (by omega)⟩
        obtain ⟨x1, hx1⟩ : ∃ x, o[1]? = some x := ⟨_, List.getElem?_eq_getElem (by omega)⟩
        have e0 := hy 0 x0 hx0
        have e1 := hy 1 x1 hx1
        have hE : oidOk o = twoOk x0 x1 := by
          simp [oidOk, hall, hl1, hl2, List.getD, hx0, hx1]
        have hp0 : 0 ≤ x0 := by
          have := List.all_eq_true.1 hall x0 (List.mem_of_getElem? hx0)
          simp only [arcOk, decide_eq_true_eq] at this
          exact this.1
        have HE := Lib.hid hE
        have z1 : (1 : Int) < (o.length : Int) := by omega
        have z0 : (0 : Int) < (o.length : Int) := by omega
        simp only [Nat.add_zero] at e0
        clear hy hx0 hx1 hall hE HA HX
        by_cases h2 : x0 < 2
        · by_cases h40 : x1 < 40
          · have hv : twoOk x0 x1 = true := by unfold twoOk; rw [decide_eq_true (show x0 = 0 ∨ x0 = 1 by omega), decide_eq_true h40]; rfl
            have HV := Lib.hid hv
            clear hv
            go_wp2_with fail
            go_ret
            exact ⟨by rw [HE.out, HV.out]; rfl, rfl⟩
          · have hv : twoOk x0 x1 = false := by unfold twoOk; rw [decide_eq_false h40, decide_eq_false (show ¬ x0 = 2 by omega), Bool.and_false]; rfl
            have HV := Lib.hid hv
            have p2 : (x0 == 2) = false := beq_eq_false_iff_ne.2 (by omega)
            clear hv
            go_wp2_with fail
            go_ret
            exact ⟨by rw [HE.out, HV.out]; rfl, rfl⟩
        · by_cases h22 : x0 = 2
          · subst h22
            by_cases hm1 : x1 ≤ 2147483567
            · have hv : twoOk 2 x1 = true := by unfold twoOk; rw [decide_eq_true hm1]; simp
              have HV := Lib.hid hv
              clear hv
              go_wp2_with fail
              go_ret
              exact ⟨by rw [HE.out, HV.out]; rfl, rfl⟩
            · have hv : twoOk 2 x1 = false := by unfold twoOk; rw [decide_eq_false hm1]; simp
              have HV := Lib.hid hv
              clear hv
              go_wp2_with fail
              go_ret
              exact ⟨by rw [HE.out, HV.out]; rfl, rfl⟩
          · have hv : twoOk x0 x1 = false := by unfold twoOk; rw [decide_eq_false h22, decide_eq_false (show ¬ (x0 = 0 ∨ x0 = 1) by omega)]; rfl
            have HV := Lib.hid hv
            have p2 : (x0 == 2) = false := beq_eq_false_iff_ne.2 h22
            clear hv
            go_wp2_with fail
            go_ret
            exact ⟨by rw [HE.out, HV.out]; rfl, rfl⟩
  · have hE : oidOk o = false := by simp [oidOk]; omega
    have HE := Lib.hid hE
    rcases Classical.em (o.length < 2) with h2 | h2
    case' inl => have q1 : decide ((o.length : Int) < 2) = true := decide_eq_true (by omega)
    case' inr =>
      have q1 : decide ((o.length : Int) < 2) = false := decide_eq_false (by omega)
      have q2 : decide ((32 : Int) < (o.length : Int)) = true := decide_eq_true (by omega)
    all_goals
      clear hE
      go_enter Tryz.func11, Tryz.ntmps11
      go_wp2_with fail
      go_ret
      exact ⟨by rw [HE.out]; rfl, rfl⟩

set_option maxRecDepth 20000 in
set_option maxHeartbeats 1000000 in
theorem r04Compare_any (v u : Value) (o p : List Int) (w : World) (h : Ints w v o) (hu : Ints w u p) :
    Calls Tryz.prog 52 #[v, u] w fun e w' => e = .returned (.int .i64 (cmpI o p)) ∧ Fr (fun _ => False) w w' := by
  obtain ⟨a, cap, rfl, hc1, hm1, hx⟩ := Ints.form h
  obtain ⟨b, cbp, rfl, hc2, hm2, hy⟩ := Ints.form hu
  have HX := Lib.hid hx
  have HY := Lib.hid hy
  unfold maxLen at hm1 hm2
  clear h hu hx hy
  go_enter Tryz.func52, Tryz.ntmps52
  go_wp2_with fail
  go_loopg [5] (o.length + p.length) (fun g i wr => ∃ j : Nat, g = o.length + p.length - j ∧ j ≤ o.length ∧ j ≤ p.length ∧ i = .int .i64 j ∧ cmpI o p = cmpI (o.drop j) (p.drop j) ∧ Fr (fun _ => False) w wr)
  case atStart => exact ⟨0, rfl, Nat.zero_le _, Nat.zero_le _, rfl, rfl, Fr.refl _⟩
  case round =>
    obtain ⟨j, hg, hj, hjp, rfl, hE, F⟩ := hrel
    have HG := Lib.hid hg
    have HE := Lib.hid hE
    have HF := Lib.hid F
    clear hg hE
    by_cases hjl : j < o.length
    · obtain ⟨ba, oa, rfl, ha⟩ := HX.out (by omega)
      obtain ⟨x, hxj⟩ : ∃ x, o[j]? = some x := ⟨_, List.getElem?_eq_getElem hjl⟩
      have e1 := F.cell (ha j x hxj) (fun h => h)
      have r1 : (0 : Int) ≤ (j : Int) := by omega
      have r2 : (j : Int) < (o.length : Int) := by omega
      have r5 : decide ((o.length : Int) ≤ (j : Int)) = false := decide_eq_false (by omega)
      have r5N : decide (o.length ≤ j) = false := decide_eq_false (by omega)
      have r5' : decide ((j : Int) < (o.length : Int)) = true := decide_eq_true (by omega)
      have r5'N : decide (j < o.length) = true := decide_eq_true (by omega)
      by_cases hjl2 : j < p.length
      · obtain ⟨bb, ob, rfl, hb⟩ := HY.out (by omega)
        obtain ⟨y, hyj⟩ : ∃ y, p[j]? = some y := ⟨_, List.getElem?_eq_getElem hjl2⟩
        have e2 := F.cell (hb j y hyj) (fun h => h)
        have r4 : (j : Int) < (p.length : Int) := by omega
        have r3 : decide ((p.length : Int) ≤ (j : Int)) = false := decide_eq_false (by omega)
        have r3N : decide (p.length ≤ j) = false := decide_eq_false (by omega)
        have r4' : decide ((j : Int) < (p.length : Int)) = true := decide_eq_true (by omega)
        have r4'N : decide (j < p.length) = true := decide_eq_true (by omega)
        have hcd := Lib.hid (cmpI_drop hxj hyj)
        clear ha hb hxj hyj F
        by_cases h1 : x < y
        · have hres : cmpI o p = -1 := by rw [HE.out, hcd.out, if_pos h1]
          have HRES := Lib.hid hres
          have q1 : decide (x < y) = true := decide_eq_true h1
          clear hres
          go_wp2_with fail
          go_quiet (fail)
          go_wp2_with fail
          go_ret
          refine ⟨by rw [HRES.out]; rfl, ?_⟩; (first | with_reducible exact HF.out | with_reducible exact Fr.drewN HF.out _ | with_reducible exact Fr.drewN (Fr.drewN HF.out _) _ | with_reducible exact Fr.drewN (Fr.drewN (Fr.drewN HF.out _) _) _)
        · have q1 : decide (x < y) = false := decide_eq_false h1
          by_cases h2 : y < x
          · have hres : cmpI o p = 1 := by rw [HE.out, hcd.out, if_neg h1, if_pos h2]
            have HRES := Lib.hid hres
            have q2 : decide (y < x) = true := decide_eq_true h2
            clear hres
            go_wp2_with fail
            go_quiet (fail)
            go_wp2_with fail
            go_quiet (fail)
            go_wp2_with fail
            go_ret
            refine ⟨by rw [HRES.out]; rfl, ?_⟩; (first | with_reducible exact HF.out | with_reducible exact Fr.drewN HF.out _ | with_reducible exact Fr.drewN (Fr.drewN HF.out _) _ | with_reducible exact Fr.drewN (Fr.drewN (Fr.drewN HF.out _) _) _)
          · have hres : cmpI o p = cmpI (o.drop (j + 1)) (p.drop (j + 1)) := by rw [HE.out, hcd.out, if_neg h1, if_neg h2]
            have HRES := Lib.hid hres
            have q2 : decide (y < x) = false := decide_eq_false h2
            clear hres
            go_wp2_with fail
            go_quiet (fail)
            go_wp2_with fail
            go_quiet (fail)
            go_wp2_with fail
            go_roundg (o.length + p.length - (j + 1))
            case measure => rw [HG.out]; omega
            case rel => refine ⟨j + 1, rfl, by omega, by omega, by go_num, HRES.out, ?_⟩; (first | with_reducible exact HF.out | with_reducible exact Fr.drewN HF.out _ | with_reducible exact Fr.drewN (Fr.drewN HF.out _) _ | with_reducible exact Fr.drewN (Fr.drewN (Fr.drewN HF.out _) _) _)
      · have r3 : decide ((p.length : Int) ≤ (j : Int)) = true := decide_eq_true (by omega)
        have r3N : decide (p.length ≤ j) = true := decide_eq_true (by omega)
        have r4 : decide ((j : Int) < (p.length : Int)) = false := decide_eq_false (by omega)
        have r4N : decide (j < p.length) = false := decide_eq_false (by omega)
        have hres : cmpI o p = 1 := by
          have h1 : o.drop j = x :: o.drop (j + 1) := by
            obtain ⟨h, rfl⟩ := List.getElem?_eq_some_iff.1 hxj
            exact List.drop_eq_getElem_cons h
          have h2 : p.drop j = [] := List.drop_eq_nil_of_le (by omega)
          rw [HE.out, h1, h2]
          rfl
        have HRES := Lib.hid hres
        clear hres ha hxj F
        go_wp2_with fail
        go_quiet (fail)
        go_wp2_with fail
        go_quiet (fail)
        go_wp2_with fail
        go_ret
        refine ⟨by rw [HRES.out]; rfl, ?_⟩; (first | with_reducible exact HF.out | with_reducible exact Fr.drewN HF.out _ | with_reducible exact Fr.drewN (Fr.drewN HF.out _) _ | with_reducible exact Fr.drewN (Fr.drewN (Fr.drewN HF.out _) _) _)
    · obtain rfl : j = o.length := by omega
      have h1 : o.drop o.length = [] := List.drop_length
      have r5 : decide ((o.length : Int) ≤ (o.length : Int)) = true := decide_eq_true (by omega)
      have r5N : decide (o.length ≤ o.length) = true := decide_eq_true (by omega)
      by_cases hlt : o.length < p.length
      · have r3 : (o.length : Int) < (p.length : Int) := by omega
        have r3N : decide (o.length < p.length) = true := decide_eq_true hlt
        have hres : cmpI o p = -1 := by
          rw [HE.out, h1]
          have : p.drop o.length ≠ [] := fun e => by have := drop_nil e; omega
          cases hd : p.drop o.length with
          | nil => exact absurd hd this
          | cons y t => rfl
        have HRES := Lib.hid hres
        clear hres h1 F
        go_wp2_with fail
        go_quiet (fail)
        go_wp2_with fail
        go_ret
        refine ⟨by rw [HRES.out]; rfl, ?_⟩; (first | with_reducible exact HF.out | with_reducible exact Fr.drewN HF.out _ | with_reducible exact Fr.drewN (Fr.drewN HF.out _) _ | with_reducible exact Fr.drewN (Fr.drewN (Fr.drewN HF.out _) _) _)
      · have r3 : ¬ (o.length : Int) < (p.length : Int) := by omega
        have r3N : decide (o.length < p.length) = false := decide_eq_false hlt
        have hres : cmpI o p = 0 := by
          have h2 : p.drop o.length = [] := List.drop_eq_nil_of_le (by omega)
          rw [HE.out, h1, h2]
          rfl
        have HRES := Lib.hid hres
        clear hres h1
        go_wp2_with fail
        go_ret
        exact ⟨by rw [HRES.out]; rfl, F⟩

theorem r04Same_any (v u : Value) (o p : List Int) (w : World) (h : Ints w v o) (hu : Ints w u p) :
    Calls Tryz.prog 17 #[v, u] w fun e w' => e = .returned (.bool (decide (o = p))) ∧ Fr (fun _ => False) w w' := by
  have H := Lib.hid (r04Compare_any v u o p w h hu)
  clear h hu
  have hq : (cmpI o p == 0) = decide (o = p) := by
    rw [Bool.eq_iff_iff]
    simp [cmpI_zero]
  have HQ := Lib.hid hq
  clear hq
  generalize cmpI o p = c at *
  go_enter Tryz.func17, Tryz.ntmps17
  go_wp2_with fail
  refine H.out.mono ?_
  rintro e w' ⟨rfl, F⟩
  go_wp2_with fail
  go_ret
  exact ⟨by rw [← HQ.out]; rfl, F⟩
end Go.Proofs.YtgffhiopbnkjbaaGreatDoor

namespace Go.Q
theorem held_z {α : Type} {o : α} {l : List α} : (o :: l)[0]? = some o := rfl
theorem held_s {α : Type} {a o : α} {l : List α} {i : Nat} (h : l[i]? = some o) : (a :: l)[i + 1]? = some o := h
theorem held_at {α : Type} {o : α} {l : List α} {i : Nat} (h : l[i]? = some o) : l.toArray[i]? = some o := by simpa using h
end Go.Q

namespace Go.Q
open Go Go.RowKit
instance : DecidableEq Part := fun p q => if h : p.o = q.o ∧ p.b = q.b then isTrue (by cases p; cases q; simp_all) else isFalse (fun e => h (by rw [e]; exact ⟨rfl, rfl⟩))
theorem Part.ext2 {p q : Part} (h1 : p.o = q.o) (h2 : p.b = q.b) : p = q := by cases p; cases q; simp_all
theorem take_next {α : Type} {l m : List α} {i : Nat} {x : α} (h : l.take i = m.take i) (h1 : l[i]? = some x) (h2 : m[i]? = some x) : l.take (i + 1) = m.take (i + 1) := by
  rw [List.take_add_one, List.take_add_one, h, h1, h2]
theorem ne_at {α : Type} {l m : List α} {i : Nat} {x y : α} (h1 : l[i]? = some x) (h2 : m[i]? = some y) (h : x ≠ y) : l ≠ m := fun e => by
  subst e
  rw [h1] at h2
  exact h (Option.some.inj h2)
theorem eq_of_take {α : Type} {l m : List α} (h : l.length = m.length) (h1 : l.take l.length = m.take l.length) : l = m := by
  rw [List.take_length] at h1
  rw [h1, h, List.take_length]
end Go.Q
namespace Go.Proofs.YtgffhiopbnkjbaaGreatDoor
open Go Go.RowKit Go.Q
set_option linter.unusedSimpArgs false

set_option maxRecDepth 20000 in
set_option maxHeartbeats 8000000 in
theorem r14Like_any (v u : Value) (n m : List (List Part)) (w : World) (h : NameAt w v n) (hu : NameAt w u m) :
    Calls Tryz.prog 24 #[v, u] w fun e w' => e = .returned (.bool (decide (n = m))) ∧ Fr (fun _ => False) w w' := by
  have H := Lib.hid h
  have HU := Lib.hid hu
  obtain ⟨a, cap, rfl, hc, hm, -⟩ := h
  obtain ⟨a', cap', rfl, hc', hm', -⟩ := hu
  have hcm : cap ≤ 9223372036854775807 := by unfold maxLen at hm; omega
  have hcm' : cap' ≤ 9223372036854775807 := by unfold maxLen at hm'; omega
  clear hm hm'
  by_cases hlen : n.length = m.length
  · have q1 : ((n.length : Int) != (m.length : Int)) = false := by simp [hlen]
    have q2 : (n.length != m.length) = false := by simp [hlen]
    have q3 : ((n.length : Int) == (m.length : Int)) = true := by simp [hlen]
    have q4 : (n.length == m.length) = true := by simp [hlen]
    have HLEN := Lib.hid hlen
    clear hlen
    go_enter Tryz.func24, Tryz.ntmps24
    go_wp2_with fail
    clear q1 q2 q3 q4
    go_loopg [5] n.length (fun g ii wr => ∃ i : Nat, g = n.length - i ∧ i ≤ n.length ∧ ii = .int .i64 i ∧ n.take i = m.take i ∧ Fr (fun _ => False) w wr)
    case atStart => exact ⟨0, rfl, Nat.zero_le _, rfl, rfl, Fr.refl _⟩
    case round =>
      obtain ⟨i, hg, hi, rfl, ht, F⟩ := hrel
      have HG := Lib.hid hg
      have HT := Lib.hid ht
      have HF := Lib.hid F
      clear hg ht
      by_cases hil : i < n.length
      · have him : i < m.length := by have := HLEN.out; omega
        obtain ⟨a0, cap0, he, _, _, hx⟩ := H.out
        simp only [Value.slice.injEq, true_and] at he
        obtain ⟨rfl, rfl⟩ := he
        obtain ⟨b, off, rfl, hy⟩ := hx (by omega)
        obtain ⟨r, hr⟩ : ∃ r, n[i]? = some r := ⟨_, List.getElem?_eq_getElem hil⟩
        obtain ⟨x, e0, hA⟩ := hy i r hr
        clear hx hy
        obtain ⟨a0, cap0, he, _, _, hx⟩ := HU.out
        simp only [Value.slice.injEq, true_and] at he
        obtain ⟨rfl, rfl⟩ := he
        obtain ⟨b', off', rfl, hy⟩ := hx (by omega)
        obtain ⟨s, hs⟩ : ∃ s, m[i]? = some s := ⟨_, List.getElem?_eq_getElem him⟩
        obtain ⟨y, e0', hA'⟩ := hy i s hs
        clear hx hy
        have HRI := Lib.hid hr
        have HSI := Lib.hid hs
        have HA := Lib.hid hA
        have HA' := Lib.hid hA'
        obtain ⟨ar, cr, rfl, hcr, hmr, -⟩ := hA
        obtain ⟨a2, cs, rfl, hcs, hms, -⟩ := hA'
        have hcr2 : cr ≤ 9223372036854775807 := by unfold maxLen at hmr; omega
        have hcs2 : cs ≤ 9223372036854775807 := by unfold maxLen at hms; omega
        have HE0 := Lib.hid e0
        have HE0' := Lib.hid e0'
        have e0w := F.cell e0 (fun h => h)
        have e0w' := F.cell e0' (fun h => h)
        have r1 : (0 : Int) ≤ (i : Int) := by omega
        have r2 : (i : Int) < (n.length : Int) := by omega
        have r3 : (i : Int) < (m.length : Int) := by omega
        clear hr hs F hmr hms e0 e0'
        by_cases hl2 : r.length = s.length
        · have q1 : ((r.length : Int) != (s.length : Int)) = false := by simp [hl2]
          have q2 : (r.length != s.length) = false := by simp [hl2]
          have q3 : ((r.length : Int) == (s.length : Int)) = true := by simp [hl2]
          have q4 : (r.length == s.length) = true := by simp [hl2]
          have HL2 := Lib.hid hl2
          clear hl2
          go_upto_region 6 with fail
          go_quiet (fail)
          have HF1 := Lib.hid (HF.out.drewN nq)
          generalize (wr.drewN nq) = w1 at *
          go_wp2_with fail
          clear q1 q2 q3 q4 e0w e0w'
          go_loopg [6] r.length (fun g kk wr => ∃ k : Nat, g = r.length - k ∧ k ≤ r.length ∧ kk = .int .i64 k ∧ r.take k = s.take k ∧ Fr (fun _ => False) w wr)
          case atStart => exact ⟨0, rfl, Nat.zero_le _, rfl, rfl, HF1.out⟩
          case round =>
            obtain ⟨k, hg, hk, rfl, ht, F⟩ := hrel
            have HG2 := Lib.hid hg
            have HT2 := Lib.hid ht
            have HF2 := Lib.hid F
            have e0w := F.cell HE0.out (fun h => h)
            have e0w' := F.cell HE0'.out (fun h => h)
            clear hg ht
            by_cases hkl : k < r.length
            · have hks : k < s.length := by have := HL2.out; omega
              obtain ⟨a0, cap0, he, _, _, hx⟩ := HA.out
              simp only [Value.slice.injEq, true_and] at he
              obtain ⟨rfl, rfl⟩ := he
              obtain ⟨b1, o1, rfl, hy⟩ := hx (by omega)
              obtain ⟨p, hp⟩ : ∃ p, r[k]? = some p := ⟨_, List.getElem?_eq_getElem hkl⟩
              obtain ⟨x, y, e1, e2, hpx, hpy⟩ := hy k p hp
              clear hx hy
              obtain ⟨a0, cap0, he, _, _, hx⟩ := HA'.out
              simp only [Value.slice.injEq, true_and] at he
              obtain ⟨rfl, rfl⟩ := he
              obtain ⟨b2, o2, rfl, hy⟩ := hx (by omega)
              obtain ⟨q, hq⟩ : ∃ q, s[k]? = some q := ⟨_, List.getElem?_eq_getElem hks⟩
              obtain ⟨x', y', e1', e2', hqx, hqy⟩ := hy k q hq
              clear hx hy
              rw [Nat.mul_comm] at e1 e2 e1' e2'
              obtain ⟨ax, cx, rfl, -⟩ := Ints.form hpx
              obtain ⟨ay, cy, rfl, -⟩ := Vals.form hpy
              obtain ⟨ax', cx', rfl, -⟩ := Ints.form hqx
              obtain ⟨ay', cy', rfl, -⟩ := Vals.form hqy
              have hS : ∀ w', Fr (fun _ => False) w w' → w'.cell? ⟨b, off + i, none⟩ = some (.slice (some ⟨b1, o1, none⟩) r.length cr) ∧ w'.cell? ⟨b', off' + i, none⟩ = some (.slice (some ⟨b2, o2, none⟩) s.length cs) ∧ w'.cell? ⟨b1, o1 + k * 2, none⟩ = some (.slice ax p.o.length cx) ∧ w'.cell? ⟨b1, o1 + k * 2 + 1, none⟩ = some (.slice ay p.b.length cy) ∧ w'.cell? ⟨b2, o2 + k * 2, none⟩ = some (.slice ax' q.o.length cx') ∧ w'.cell? ⟨b2, o2 + k * 2 + 1, none⟩ = some (.slice ay' q.b.length cy') := fun w' f => ⟨f.cell HE0.out (fun h => h), f.cell HE0'.out (fun h => h), f.cell e1 (fun h => h), f.cell e2 (fun h => h), f.cell e1' (fun h => h), f.cell e2' (fun h => h)⟩
              have HS := Lib.hid hS
              obtain ⟨d1, hd1⟩ : ∃ d1, decide (p.o = q.o) = d1 := ⟨_, rfl⟩
              obtain ⟨d2, hd2⟩ : ∃ d2, decide (p.b = q.b) = d2 := ⟨_, rfl⟩
              have hc1 : ∀ W, Fr (fun _ => False) w W → Calls Tryz.prog 17 #[.slice ax p.o.length cx, .slice ax' q.o.length cx'] W fun e w' => e = .returned (.bool d1) ∧ Fr (fun _ => False) W w' := fun W f => by
                have := r04Same_any _ _ p.o q.o W (hpx.old f) (hqx.old f)
                rw [hd1] at this
                exact this
              have hc2 : ∀ W, Fr (fun _ => False) w W → Calls Tryz.prog 43 #[.slice ay p.b.length cy, .slice ay' q.b.length cy'] W fun e w' => e = .returned (.bool d2) ∧ Fr (fun _ => False) W w' := fun W f => by
                have := r01Same_any _ _ p.b q.b W (hpy.old f) (hqy.old f)
                rw [hd2] at this
                exact this
              have HC1 := Lib.hid hc1
              have HC2 := Lib.hid hc2
              have HD1 := Lib.hid hd1
              have HD2 := Lib.hid hd2
              have HPI := Lib.hid hp
              have HQI := Lib.hid hq
              have s1 : (0 : Int) ≤ (k : Int) := by omega
              have s2 : (k : Int) < (r.length : Int) := by omega
              have s3 : (k : Int) < (s.length : Int) := by omega
              clear hp hq e1 e2 e1' e2' hpx hpy hqx hqy hS hc1 hc2 hd1 hd2
              go_upto_region 11 with fail
              clear e0w e0w'
              have G : Fr (fun _ => False) w wr.drew := F.drew
              clear F
              cases d1 with
              | false =>
                have hne : n ≠ m := ne_at HRI.out HSI.out (ne_at HPI.out HQI.out (fun e => by have := of_decide_eq_false HD1.out; rw [e] at this; exact this rfl))
                have HNE := Lib.hid (decide_eq_false hne)
                clear hne
                refine wp_region_held_drew (S := (fun w' => w'.cell? ⟨b, off + i, none⟩ = some (.slice (some ⟨b1, o1, none⟩) r.length cr) ∧ w'.cell? ⟨b', off' + i, none⟩ = some (.slice (some ⟨b2, o2, none⟩) s.length cs) ∧ w'.cell? ⟨b1, o1 + k * 2, none⟩ = some (.slice ax p.o.length cx) ∧ w'.cell? ⟨b1, o1 + k * 2 + 1, none⟩ = some (.slice ay p.b.length cy) ∧ w'.cell? ⟨b2, o2 + k * 2, none⟩ = some (.slice ax' q.o.length cx') ∧ w'.cell? ⟨b2, o2 + k * 2 + 1, none⟩ = some (.slice ay' q.b.length cy'))) (by kernel_rfl) ?_ (fun hHeld => ?_)
                · exact HS.out _ G
                refine wpAnyH_take (i := 0) (v := ?vr0) (held_at held_z) (by kernel_rfl) (by kernel_rfl) (by kernel_rfl) (fun _ _ _ h => h) (Or.inl ⟨by rfl, ?hyr0⟩) (by assumption) ?restr0
                case hyr0 => intro w9 hSw; (try dsimp only at hSw); go_simp; all_goals with_reducible rfl
                try simp only [Act.put, List.setIfInBounds_toArray, List.set_cons_zero, List.set_cons_succ]
                refine wpAnyH_take (i := 1) (v := ?vr1) (held_at (held_s held_z)) (by kernel_rfl) (by kernel_rfl) (by kernel_rfl) (fun _ _ _ h => h) (Or.inl ⟨by rfl, ?hyr1⟩) (by assumption) ?restr1
                case hyr1 => intro w9 hSw; (try dsimp only at hSw); go_simp; all_goals with_reducible rfl
                try simp only [Act.put, List.setIfInBounds_toArray, List.set_cons_zero, List.set_cons_succ]
                refine wpAnyH_take (i := 2) (v := ?vr2) (held_at (held_s (held_s held_z))) (by kernel_rfl) (by kernel_rfl) (by kernel_rfl) (fun _ _ _ h => h) (Or.inl ⟨by rfl, ?hyr2⟩) (by assumption) ?restr2
                case hyr2 => intro w9 hSw; (try dsimp only at hSw); go_simp; all_goals with_reducible rfl
                try simp only [Act.put, List.setIfInBounds_toArray, List.set_cons_zero, List.set_cons_succ]
                refine wpAnyH_take (i := 3) (v := ?vr3) (held_at (held_s (held_s (held_s held_z)))) (by kernel_rfl) (by kernel_rfl) (by kernel_rfl) (fun _ _ _ h => h) (Or.inl ⟨by rfl, ?hyr3⟩) (by assumption) ?restr3
                case hyr3 => intro w9 hSw; (try dsimp only at hSw); go_simp; all_goals with_reducible rfl
                try simp only [Act.put, List.setIfInBounds_toArray, List.set_cons_zero, List.set_cons_succ]
                refine wpAnyH_take (i := 4) (v := ?vr4) (held_at (held_s (held_s (held_s (held_s held_z))))) (by kernel_rfl) (by kernel_rfl) (by kernel_rfl) (fun _ _ _ h => h) (Or.inl ⟨by rfl, ?hyr4⟩) (by assumption) ?restr4
                case hyr4 => intro w9 hSw; (try dsimp only at hSw); go_simp; all_goals with_reducible rfl
                try simp only [Act.put, List.setIfInBounds_toArray, List.set_cons_zero, List.set_cons_succ]
                refine wpAnyH_take (i := 5) (v := ?vr5) (held_at (held_s (held_s (held_s (held_s (held_s held_z)))))) (by kernel_rfl) (by kernel_rfl) (by kernel_rfl) (fun _ _ _ h => h) (Or.inl ⟨by rfl, ?hyr5⟩) (by assumption) ?restr5
                case hyr5 => intro w9 hSw; (try dsimp only at hSw); go_simp; all_goals with_reducible rfl
                try simp only [Act.put, List.setIfInBounds_toArray, List.set_cons_zero, List.set_cons_succ]
                refine wpAnyH_take (i := 6) (v := ?vr6) (held_at (held_s (held_s (held_s (held_s (held_s (held_s held_z))))))) (by kernel_rfl) (by kernel_rfl) (by kernel_rfl) (fun _ _ _ h => h) (Or.inl ⟨by rfl, ?hyr6⟩) (by assumption) ?restr6
                case hyr6 => intro w9 hSw; (try dsimp only at hSw); go_simp; all_goals with_reducible rfl
                try simp only [Act.put, List.setIfInBounds_toArray, List.set_cons_zero, List.set_cons_succ]
                refine wpAnyH_take (i := 7) (v := ?vr7) (held_at (held_s (held_s (held_s (held_s (held_s (held_s (held_s held_z)))))))) (by kernel_rfl) (by kernel_rfl) (by kernel_rfl) (fun _ _ _ h => h) (Or.inl ⟨by rfl, ?hyr7⟩) (by assumption) ?restr7
                case hyr7 => intro w9 hSw; (try dsimp only at hSw); go_simp; all_goals with_reducible rfl
                try simp only [Act.put, List.setIfInBounds_toArray, List.set_cons_zero, List.set_cons_succ]
                refine wpAnyH_take (i := 8) (v := ?vr8) (held_at (held_s (held_s (held_s (held_s (held_s (held_s (held_s (held_s held_z))))))))) (by kernel_rfl) (by kernel_rfl) (by kernel_rfl) (fun _ _ _ h => h) (Or.inl ⟨by rfl, ?hyr8⟩) (by assumption) ?restr8
                case hyr8 => intro w9 hSw; (try dsimp only at hSw); go_simp; all_goals with_reducible rfl
                try simp only [Act.put, List.setIfInBounds_toArray, List.set_cons_zero, List.set_cons_succ]
                refine wpAnyH_take (i := 9) (v := ?vr9) (held_at (held_s (held_s (held_s (held_s (held_s (held_s (held_s (held_s (held_s held_z)))))))))) (by kernel_rfl) (by kernel_rfl) (by kernel_rfl) (fun _ _ _ h => h) (Or.inl ⟨by rfl, ?hyr9⟩) (by assumption) ?restr9
                case hyr9 => intro w9 hSw; (try dsimp only at hSw); go_simp; all_goals with_reducible rfl
                try simp only [Act.put, List.setIfInBounds_toArray, List.set_cons_zero, List.set_cons_succ]
                refine wpAnyH_take (i := 10) (v := ?vr10) (held_at (held_s (held_s (held_s (held_s (held_s (held_s (held_s (held_s (held_s (held_s held_z))))))))))) (by kernel_rfl) (by kernel_rfl) (by kernel_rfl) (fun _ _ _ h => h) (Or.inl ⟨by rfl, ?hyr10⟩) (by assumption) ?restr10
                case hyr10 => intro w9 hSw; (try dsimp only at hSw); go_simp; all_goals with_reducible rfl
                try simp only [Act.put, List.setIfInBounds_toArray, List.set_cons_zero, List.set_cons_succ]
                refine wpAnyH_take (i := 11) (v := ?vr11) (held_at (held_s (held_s (held_s (held_s (held_s (held_s (held_s (held_s (held_s (held_s (held_s held_z)))))))))))) (by kernel_rfl) (by kernel_rfl) (by kernel_rfl) (fun _ _ _ h => h) (Or.inl ⟨by rfl, ?hyr11⟩) (by assumption) ?restr11
                case hyr11 => intro w9 hSw; (try dsimp only at hSw); go_simp; all_goals with_reducible rfl
                try simp only [Act.put, List.setIfInBounds_toArray, List.set_cons_zero, List.set_cons_succ]
                refine wpAnyH_take (i := 12) (v := ?vr12) (held_at (held_s (held_s (held_s (held_s (held_s (held_s (held_s (held_s (held_s (held_s (held_s (held_s held_z))))))))))))) (by kernel_rfl) (by kernel_rfl) (by kernel_rfl) (fun _ _ _ h => h) (Or.inl ⟨by rfl, ?hyr12⟩) (by assumption) ?restr12
                case hyr12 => intro w9 hSw; (try dsimp only at hSw); go_simp; all_goals with_reducible rfl
                try simp only [Act.put, List.setIfInBounds_toArray, List.set_cons_zero, List.set_cons_succ]
                refine wpAnyH_take (i := 13) (v := ?vr13) (held_at (held_s (held_s (held_s (held_s (held_s (held_s (held_s (held_s (held_s (held_s (held_s (held_s (held_s held_z)))))))))))))) (by kernel_rfl) (by kernel_rfl) (by kernel_rfl) (fun _ _ _ h => h) (Or.inl ⟨by rfl, ?hyr13⟩) (by assumption) ?restr13
                case hyr13 => intro w9 hSw; (try dsimp only at hSw); go_simp; all_goals with_reducible rfl
                try simp only [Act.put, List.setIfInBounds_toArray, List.set_cons_zero, List.set_cons_succ]
                refine wpAnyH_take (i := 14) (v := ?vr14) (held_at (held_s (held_s (held_s (held_s (held_s (held_s (held_s (held_s (held_s (held_s (held_s (held_s (held_s (held_s held_z))))))))))))))) (by kernel_rfl) (by kernel_rfl) (by kernel_rfl) (fun _ _ _ h => h) (Or.inl ⟨by rfl, ?hyr14⟩) (by assumption) ?restr14
                case hyr14 => intro w9 hSw; (try dsimp only at hSw); go_simp; all_goals with_reducible rfl
                try simp only [Act.put, List.setIfInBounds_toArray, List.set_cons_zero, List.set_cons_succ]
                refine wpAnyH_take (i := 15) (v := ?vr15) (held_at (held_s (held_s (held_s (held_s (held_s (held_s (held_s (held_s (held_s (held_s (held_s (held_s (held_s (held_s (held_s held_z)))))))))))))))) (by kernel_rfl) (by kernel_rfl) (by kernel_rfl) (fun _ _ _ h => h) (Or.inl ⟨by rfl, ?hyr15⟩) (by assumption) ?restr15
                case hyr15 => intro w9 hSw; (try dsimp only at hSw); go_simp; all_goals with_reducible rfl
                try simp only [Act.put, List.setIfInBounds_toArray, List.set_cons_zero, List.set_cons_succ]
                refine wpAnyH_ready (rs := [16]) (by kernel_rfl) (by simp) ?_
                refine AllReadyH.cons (held_at (held_s (held_s (held_s (held_s (held_s (held_s (held_s (held_s (held_s (held_s (held_s (held_s (held_s (held_s (held_s (held_s held_z))))))))))))))))) (fun K hK => ?_) AllReadyH.nil
                go_simp
                go_at_call 17; (with_reducible refine (HC1.out _ G).mono ?_); rintro e w' ⟨rfl, F⟩; replace G := G.trans F
                try go_wp2_with fail
                refine hK.out _ _ ?_ (fun hHeld => ?_)
                · exact HS.out _ G
                clear hK K
                try simp only [Act.put, List.setIfInBounds_toArray, List.set_cons_zero, List.set_cons_succ]
                refine wpAnyH_take (i := 17) (v := ?vr17) (held_at (held_s (held_s (held_s (held_s (held_s (held_s (held_s (held_s (held_s (held_s (held_s (held_s (held_s (held_s (held_s (held_s (held_s held_z)))))))))))))))))) (by kernel_rfl) (by kernel_rfl) (by kernel_rfl) (fun _ _ _ h => h) (Or.inl ⟨by rfl, ?hyr17⟩) (by assumption) ?restr17
                case hyr17 => intro w9 hSw; (try dsimp only at hSw); go_simp; all_goals with_reducible rfl
                try simp only [Act.put, List.setIfInBounds_toArray, List.set_cons_zero, List.set_cons_succ]
                refine wpAnyH_take (i := 18) (v := ?vr18) (held_at (held_s (held_s (held_s (held_s (held_s (held_s (held_s (held_s (held_s (held_s (held_s (held_s (held_s (held_s (held_s (held_s (held_s (held_s held_z))))))))))))))))))) (by kernel_rfl) (by kernel_rfl) (by kernel_rfl) (fun _ _ _ h => h) (Or.inl ⟨by rfl, ?hyr18⟩) (by assumption) ?restr18
                case hyr18 => intro w9 hSw; (try dsimp only at hSw); go_simp; all_goals with_reducible rfl
                try simp only [Act.put, List.setIfInBounds_toArray, List.set_cons_zero, List.set_cons_succ]
                refine wpAnyH_take (i := 19) (v := undef) (held_at (held_s (held_s (held_s (held_s (held_s (held_s (held_s (held_s (held_s (held_s (held_s (held_s (held_s (held_s (held_s (held_s (held_s (held_s (held_s held_z)))))))))))))))))))) (by kernel_rfl) (by kernel_rfl) (by kernel_rfl) (fun _ _ _ h => h) (Or.inr ⟨by rfl, rfl⟩) (by assumption) ?_
                try simp only [Act.put, List.setIfInBounds_toArray, List.set_cons_zero, List.set_cons_succ]
                refine wpAnyH_take (i := 20) (v := undef) (held_at (held_s (held_s (held_s (held_s (held_s (held_s (held_s (held_s (held_s (held_s (held_s (held_s (held_s (held_s (held_s (held_s (held_s (held_s (held_s (held_s held_z))))))))))))))))))))) (by kernel_rfl) (by kernel_rfl) (by kernel_rfl) (fun _ _ _ h => h) (Or.inr ⟨by rfl, rfl⟩) (by assumption) ?_
                try simp only [Act.put, List.setIfInBounds_toArray, List.set_cons_zero, List.set_cons_succ]
                refine wpAnyH_take (i := 21) (v := undef) (held_at (held_s (held_s (held_s (held_s (held_s (held_s (held_s (held_s (held_s (held_s (held_s (held_s (held_s (held_s (held_s (held_s (held_s (held_s (held_s (held_s (held_s held_z)))))))))))))))))))))) (by kernel_rfl) (by kernel_rfl) (by kernel_rfl) (fun _ _ _ h => h) (Or.inr ⟨by rfl, rfl⟩) (by assumption) ?_
                try simp only [Act.put, List.setIfInBounds_toArray, List.set_cons_zero, List.set_cons_succ]
                refine wpAnyH_take (i := 22) (v := undef) (held_at (held_s (held_s (held_s (held_s (held_s (held_s (held_s (held_s (held_s (held_s (held_s (held_s (held_s (held_s (held_s (held_s (held_s (held_s (held_s (held_s (held_s (held_s held_z))))))))))))))))))))))) (by kernel_rfl) (by kernel_rfl) (by kernel_rfl) (fun _ _ _ h => h) (Or.inr ⟨by rfl, rfl⟩) (by assumption) ?_
                try simp only [Act.put, List.setIfInBounds_toArray, List.set_cons_zero, List.set_cons_succ]
                refine wpAnyH_take (i := 23) (v := undef) (held_at (held_s (held_s (held_s (held_s (held_s (held_s (held_s (held_s (held_s (held_s (held_s (held_s (held_s (held_s (held_s (held_s (held_s (held_s (held_s (held_s (held_s (held_s (held_s held_z)))))))))))))))))))))))) (by kernel_rfl) (by kernel_rfl) (by kernel_rfl) (fun _ _ _ h => h) (Or.inr ⟨by rfl, rfl⟩) (by assumption) ?_
                try simp only [Act.put, List.setIfInBounds_toArray, List.set_cons_zero, List.set_cons_succ]
                refine wpAnyH_take (i := 24) (v := undef) (held_at (held_s (held_s (held_s (held_s (held_s (held_s (held_s (held_s (held_s (held_s (held_s (held_s (held_s (held_s (held_s (held_s (held_s (held_s (held_s (held_s (held_s (held_s (held_s (held_s held_z))))))))))))))))))))))))) (by kernel_rfl) (by kernel_rfl) (by kernel_rfl) (fun _ _ _ h => h) (Or.inr ⟨by rfl, rfl⟩) (by assumption) ?_
                try simp only [Act.put, List.setIfInBounds_toArray, List.set_cons_zero, List.set_cons_succ]
                refine wpAnyH_take (i := 25) (v := undef) (held_at (held_s (held_s (held_s (held_s (held_s (held_s (held_s (held_s (held_s (held_s (held_s (held_s (held_s (held_s (held_s (held_s (held_s (held_s (held_s (held_s (held_s (held_s (held_s (held_s (held_s held_z)))))))))))))))))))))))))) (by kernel_rfl) (by kernel_rfl) (by kernel_rfl) (fun _ _ _ h => h) (Or.inr ⟨by rfl, rfl⟩) (by assumption) ?_
                try simp only [Act.put, List.setIfInBounds_toArray, List.set_cons_zero, List.set_cons_succ]
                refine wpAnyH_take (i := 26) (v := undef) (held_at (held_s (held_s (held_s (held_s (held_s (held_s (held_s (held_s (held_s (held_s (held_s (held_s (held_s (held_s (held_s (held_s (held_s (held_s (held_s (held_s (held_s (held_s (held_s (held_s (held_s (held_s held_z))))))))))))))))))))))))))) (by kernel_rfl) (by kernel_rfl) (by kernel_rfl) (fun _ _ _ h => h) (Or.inr ⟨by rfl, rfl⟩) (by assumption) ?_
                try simp only [Act.put, List.setIfInBounds_toArray, List.set_cons_zero, List.set_cons_succ]
                refine wpAnyH_take (i := 27) (v := undef) (held_at (held_s (held_s (held_s (held_s (held_s (held_s (held_s (held_s (held_s (held_s (held_s (held_s (held_s (held_s (held_s (held_s (held_s (held_s (held_s (held_s (held_s (held_s (held_s (held_s (held_s (held_s (held_s held_z)))))))))))))))))))))))))))) (by kernel_rfl) (by kernel_rfl) (by kernel_rfl) (fun _ _ _ h => h) (Or.inr ⟨by rfl, rfl⟩) (by assumption) ?_
                try simp only [Act.put, List.setIfInBounds_toArray, List.set_cons_zero, List.set_cons_succ]
                refine wpAnyH_take (i := 28) (v := undef) (held_at (held_s (held_s (held_s (held_s (held_s (held_s (held_s (held_s (held_s (held_s (held_s (held_s (held_s (held_s (held_s (held_s (held_s (held_s (held_s (held_s (held_s (held_s (held_s (held_s (held_s (held_s (held_s (held_s held_z))))))))))))))))))))))))))))) (by kernel_rfl) (by kernel_rfl) (by kernel_rfl) (fun _ _ _ h => h) (Or.inr ⟨by rfl, rfl⟩) (by assumption) ?_
                try simp only [Act.put, List.setIfInBounds_toArray, List.set_cons_zero, List.set_cons_succ]
                refine wpAnyH_take (i := 29) (v := undef) (held_at (held_s (held_s (held_s (held_s (held_s (held_s (held_s (held_s (held_s (held_s (held_s (held_s (held_s (held_s (held_s (held_s (held_s (held_s (held_s (held_s (held_s (held_s (held_s (held_s (held_s (held_s (held_s (held_s (held_s held_z)))))))))))))))))))))))))))))) (by kernel_rfl) (by kernel_rfl) (by kernel_rfl) (fun _ _ _ h => h) (Or.inr ⟨by rfl, rfl⟩) (by assumption) ?_
                try simp only [Act.put, List.setIfInBounds_toArray, List.set_cons_zero, List.set_cons_succ]
                refine wpAnyH_take (i := 30) (v := undef) (held_at (held_s (held_s (held_s (held_s (held_s (held_s (held_s (held_s (held_s (held_s (held_s (held_s (held_s (held_s (held_s (held_s (held_s (held_s (held_s (held_s (held_s (held_s (held_s (held_s (held_s (held_s (held_s (held_s (held_s (held_s held_z))))))))))))))))))))))))))))))) (by kernel_rfl) (by kernel_rfl) (by kernel_rfl) (fun _ _ _ h => h) (Or.inr ⟨by rfl, rfl⟩) (by assumption) ?_
                try simp only [Act.put, List.setIfInBounds_toArray, List.set_cons_zero, List.set_cons_succ]
                refine wpAnyH_take (i := 31) (v := undef) (held_at (held_s (held_s (held_s (held_s (held_s (held_s (held_s (held_s (held_s (held_s (held_s (held_s (held_s (held_s (held_s (held_s (held_s (held_s (held_s (held_s (held_s (held_s (held_s (held_s (held_s (held_s (held_s (held_s (held_s (held_s (held_s held_z)))))))))))))))))))))))))))))))) (by kernel_rfl) (by kernel_rfl) (by kernel_rfl) (fun _ _ _ h => h) (Or.inr ⟨by rfl, rfl⟩) (by assumption) ?_
                try simp only [Act.put, List.setIfInBounds_toArray, List.set_cons_zero, List.set_cons_succ]
                refine wpAnyH_take (i := 32) (v := undef) (held_at (held_s (held_s (held_s (held_s (held_s (held_s (held_s (held_s (held_s (held_s (held_s (held_s (held_s (held_s (held_s (held_s (held_s (held_s (held_s (held_s (held_s (held_s (held_s (held_s (held_s (held_s (held_s (held_s (held_s (held_s (held_s (held_s held_z))))))))))))))))))))))))))))))))) (by kernel_rfl) (by kernel_rfl) (by kernel_rfl) (fun _ _ _ h => h) (Or.inr ⟨by rfl, rfl⟩) (by assumption) ?_
                try simp only [Act.put, List.setIfInBounds_toArray, List.set_cons_zero, List.set_cons_succ]
                refine wpAnyH_take (i := 33) (v := undef) (held_at (held_s (held_s (held_s (held_s (held_s (held_s (held_s (held_s (held_s (held_s (held_s (held_s (held_s (held_s (held_s (held_s (held_s (held_s (held_s (held_s (held_s (held_s (held_s (held_s (held_s (held_s (held_s (held_s (held_s (held_s (held_s (held_s (held_s held_z)))))))))))))))))))))))))))))))))) (by kernel_rfl) (by kernel_rfl) (by kernel_rfl) (fun _ _ _ h => h) (Or.inr ⟨by rfl, rfl⟩) (by assumption) ?_
                try simp only [Act.put, List.setIfInBounds_toArray, List.set_cons_zero, List.set_cons_succ]
                refine wpAnyH_take (i := 34) (v := undef) (held_at (held_s (held_s (held_s (held_s (held_s (held_s (held_s (held_s (held_s (held_s (held_s (held_s (held_s (held_s (held_s (held_s (held_s (held_s (held_s (held_s (held_s (held_s (held_s (held_s (held_s (held_s (held_s (held_s (held_s (held_s (held_s (held_s (held_s (held_s held_z))))))))))))))))))))))))))))))))))) (by kernel_rfl) (by kernel_rfl) (by kernel_rfl) (fun _ _ _ h => h) (Or.inr ⟨by rfl, rfl⟩) (by assumption) ?_
                try simp only [Act.put, List.setIfInBounds_toArray, List.set_cons_zero, List.set_cons_succ]
                refine wpAnyH_take (i := 35) (v := undef) (held_at (held_s (held_s (held_s (held_s (held_s (held_s (held_s (held_s (held_s (held_s (held_s (held_s (held_s (held_s (held_s (held_s (held_s (held_s (held_s (held_s (held_s (held_s (held_s (held_s (held_s (held_s (held_s (held_s (held_s (held_s (held_s (held_s (held_s (held_s (held_s held_z)))))))))))))))))))))))))))))))))))) (by kernel_rfl) (by kernel_rfl) (by kernel_rfl) (fun _ _ _ h => h) (Or.inr ⟨by rfl, rfl⟩) (by assumption) ?_
                try simp only [Act.put, List.setIfInBounds_toArray, List.set_cons_zero, List.set_cons_succ]
                refine wpAnyH_take (i := 36) (v := undef) (held_at (held_s (held_s (held_s (held_s (held_s (held_s (held_s (held_s (held_s (held_s (held_s (held_s (held_s (held_s (held_s (held_s (held_s (held_s (held_s (held_s (held_s (held_s (held_s (held_s (held_s (held_s (held_s (held_s (held_s (held_s (held_s (held_s (held_s (held_s (held_s (held_s held_z))))))))))))))))))))))))))))))))))))) (by kernel_rfl) (by kernel_rfl) (by kernel_rfl) (fun _ _ _ h => h) (Or.inr ⟨by rfl, rfl⟩) (by assumption) ?_
                try simp only [Act.put, List.setIfInBounds_toArray, List.set_cons_zero, List.set_cons_succ]
                refine wpAnyH_take (i := 37) (v := ?vr37) (held_at (held_s (held_s (held_s (held_s (held_s (held_s (held_s (held_s (held_s (held_s (held_s (held_s (held_s (held_s (held_s (held_s (held_s (held_s (held_s (held_s (held_s (held_s (held_s (held_s (held_s (held_s (held_s (held_s (held_s (held_s (held_s (held_s (held_s (held_s (held_s (held_s (held_s held_z)))))))))))))))))))))))))))))))))))))) (by kernel_rfl) (by kernel_rfl) (by kernel_rfl) (fun _ _ _ h => h) (Or.inl ⟨by rfl, ?hyr37⟩) (by assumption) ?restr37
                case hyr37 => intro w9 hSw; (try dsimp only at hSw); go_simp; all_goals with_reducible rfl
                try simp only [Act.put, List.setIfInBounds_toArray, List.set_cons_zero, List.set_cons_succ]
                refine wpAnyH_done (by kernel_rfl) ?_ _
                all_goals
                  go_wp2_with fail
                  go_ret
                  exact ⟨by rw [HNE.out]; rfl, G⟩
              | true =>
                cases d2 with
                | false =>
                  have hne : n ≠ m := ne_at HRI.out HSI.out (ne_at HPI.out HQI.out (fun e => by have := of_decide_eq_false HD2.out; rw [e] at this; exact this rfl))
                  have HNE := Lib.hid (decide_eq_false hne)
                  clear hne
                  go_region_held3 (fun w' => w'.cell? ⟨b, off + i, none⟩ = some (.slice (some ⟨b1, o1, none⟩) r.length cr) ∧ w'.cell? ⟨b', off' + i, none⟩ = some (.slice (some ⟨b2, o2, none⟩) s.length cs) ∧ w'.cell? ⟨b1, o1 + k * 2, none⟩ = some (.slice ax p.o.length cx) ∧ w'.cell? ⟨b1, o1 + k * 2 + 1, none⟩ = some (.slice ay p.b.length cy) ∧ w'.cell? ⟨b2, o2 + k * 2, none⟩ = some (.slice ax' q.o.length cx') ∧ w'.cell? ⟨b2, o2 + k * 2 + 1, none⟩ = some (.slice ay' q.b.length cy')) (exact HS.out _ G) (first
                    | (go_at_call 17; refine (HC1.out _ G).mono ?_; rintro e w' ⟨rfl, F⟩; replace G := G.trans F)
                    | (go_at_call 43; refine (HC2.out _ G).mono ?_; rintro e w' ⟨rfl, F⟩; replace G := G.trans F))
                  all_goals
                    go_wp2_with fail
                    go_ret
                    exact ⟨by rw [HNE.out]; rfl, G⟩
                | true =>
                  have hpq : p = q := Part.ext2 (of_decide_eq_true HD1.out) (of_decide_eq_true HD2.out)
                  have HNT := Lib.hid (take_next HT2.out HPI.out (by rw [hpq]; exact HQI.out))
                  clear hpq
                  go_region_held3 (fun w' => w'.cell? ⟨b, off + i, none⟩ = some (.slice (some ⟨b1, o1, none⟩) r.length cr) ∧ w'.cell? ⟨b', off' + i, none⟩ = some (.slice (some ⟨b2, o2, none⟩) s.length cs) ∧ w'.cell? ⟨b1, o1 + k * 2, none⟩ = some (.slice ax p.o.length cx) ∧ w'.cell? ⟨b1, o1 + k * 2 + 1, none⟩ = some (.slice ay p.b.length cy) ∧ w'.cell? ⟨b2, o2 + k * 2, none⟩ = some (.slice ax' q.o.length cx') ∧ w'.cell? ⟨b2, o2 + k * 2 + 1, none⟩ = some (.slice ay' q.b.length cy')) (exact HS.out _ G) (first
                    | (go_at_call 17; refine (HC1.out _ G).mono ?_; rintro e w' ⟨rfl, F⟩; replace G := G.trans F)
                    | (go_at_call 43; refine (HC2.out _ G).mono ?_; rintro e w' ⟨rfl, F⟩; replace G := G.trans F))
                  all_goals
                    go_wp2_with fail
                    go_roundg (r.length - (k + 1))
                    case measure => rw [HG2.out]; omega
                    case rel => exact ⟨k + 1, rfl, by omega, by go_num, HNT.out, G⟩
            · obtain rfl : k = r.length := by omega
              have hrs : r = s := eq_of_take HL2.out HT2.out
              have HNT := Lib.hid (take_next HT.out HRI.out (by rw [hrs]; exact HSI.out))
              clear hrs
              go_wp2_with fail
              go_roundg (n.length - (i + 1))
              case measure => rw [HG.out]; omega
              case rel => exact ⟨i + 1, rfl, by omega, by go_num, HNT.out, F⟩
        · have q1 : ((r.length : Int) != (s.length : Int)) = true := by simp; omega
          have q2 : (r.length != s.length) = true := by simpa using hl2
          have q3 : ((r.length : Int) == (s.length : Int)) = false := by simp; omega
          have q4 : (r.length == s.length) = false := by simpa using hl2
          have hne : n ≠ m := ne_at HRI.out HSI.out (fun e => hl2 (by rw [e]))
          have HNE := Lib.hid (decide_eq_false hne)
          clear hne hl2
          go_upto_region 6 with fail
          go_quiet (fail)
          have HF1 := Lib.hid (HF.out.drewN nq)
          generalize (wr.drewN nq) = w1 at *
          go_wp2_with fail
          go_ret
          exact ⟨by rw [HNE.out]; rfl, HF1.out⟩
      · obtain rfl : i = n.length := by omega
        have hnm : n = m := eq_of_take HLEN.out HT.out
        have HNM := Lib.hid (decide_eq_true hnm)
        clear hnm
        go_wp2_with fail
        go_ret
        exact ⟨by rw [HNM.out]; rfl, F⟩
  · have q1 : ((n.length : Int) != (m.length : Int)) = true := by simp; omega
    have q2 : (n.length != m.length) = true := by simpa using hlen
    have q3 : ((n.length : Int) == (m.length : Int)) = false := by simp; omega
    have q4 : (n.length == m.length) = false := by simpa using hlen
    have hne : n ≠ m := fun e => hlen (by rw [e])
    have HNE := Lib.hid (decide_eq_false hne)
    clear hne hlen
    go_enter Tryz.func24, Tryz.ntmps24
    go_wp2_with fail
    go_ret
    exact ⟨by rw [HNE.out]; rfl, Fr.refl _⟩
end Go.Proofs.YtgffhiopbnkjbaaGreatDoor

namespace Go.Q
open Go Go.RowKit
theorem rdnKey_one (p : Part) : rdnKeyS [p] = attrKeyS p.o p.b := by
  unfold rdnKeyS partKeys sortS
  rw [List.map_cons, List.map_nil, List.mergeSort_singleton]
  have e : Lib.compact [attrKeyS p.o p.b] = [attrKeyS p.o p.b] := by
    simp [Lib.compact, Lib.compactUpTo, Lib.keeps]
  rw [e, Lib.join_one]
theorem kind_tag {k : Int} (h : kindOk k = true) : tagGood (tagOf k) ∧ (tagOf k).cls = 0 ∧ (tagOf k).made = false ∧ (tagOf k).num = k := by
  have hk : k = 12 ∨ k = 19 ∨ k = 20 ∨ k = 22 ∨ k = 26 ∨ k = 30 := by simpa [kindOk] using h
  refine ⟨good_of (by omega) (by omega), rfl, ?_, rfl⟩
  rcases hk with r | r | r | r | r | r <;> subst r <;> rfl
theorem textRead_wrap {k : Int} {b : List UInt8} (h : rightS k b = true) (hl : b.length ≤ 16777216) : textReadS (wrapS (tagOf k) b) = .ok (k, b, (wrapS (tagOf k) b).length) := by
  have hk : kindOk k = true := by unfold rightS at h; rw [Bool.and_eq_true] at h; exact h.1
  obtain ⟨hg, h0, hm, hn⟩ := kind_tag hk
  have hr := wrap_read hg hl []
  rw [List.append_nil] at hr
  have hlen := wrap_len (tagOf k) b
  have hd : (wrapS (tagOf k) b).drop (1 + (lenBytes b.length).length) = b := by
    unfold wrapS
    rw [Nat.add_comm, List.drop_succ_cons, List.drop_left]
  unfold textReadS
  rw [hr]
  simp only [h0, hm, hn, hk, hd, List.take_length, h, if_true]
  rw [if_neg (by simp), if_neg (by omega)]
  simp only [hlen]
theorem single_wrap {t : Tag} (h : tagGood t) {l : List UInt8} (hl : l.length ≤ 16777216) : singleB (wrapS t l) = true := by
  unfold singleB allS
  rw [wrap_single h hl _ (by rw [wrap_len]; omega)]
  rfl
theorem attr_some {o : List Int} {k : Int} {b : List UInt8} (ho : oidOk o = true) (h : kindOk k = true) (hl : b.length ≤ 16777216) : (attrS o (wrapS (tagOf k) b)).isSome = true := by
  unfold attrS
  rw [ho, single_wrap (kind_tag h).1 hl]
  rfl
/-- A name of one part. -/
abbrev oneN (o : List Int) (v : List UInt8) : List (List Part) := [[⟨o, v⟩]]
theorem oneN_ok {o : List Int} {v : List UInt8} (h : (attrS o v).isSome = true) : nameOk (oneN o v) = true := by
  unfold nameOk rdnS
  obtain ⟨x, hx⟩ := Option.isSome_iff_exists.1 h
  simp [stepsS, hx]
theorem oneN_key (o : List Int) (v : List UInt8) : nameKeyS (oneN o v) = attrKeyS o v := by
  unfold nameKeyS
  rw [List.map_cons, List.map_nil, Lib.join_one, rdnKey_one]
theorem attrKey_wrap {o : List Int} {k : Int} {b : List UInt8} (h : rightS k b = true) (hl : b.length ≤ 16777216) : attrKeyS o (wrapS (tagOf k) b) = oidTextS o ++ ([61, 116] ++ hexS (ofS 12 (foldS (signsS k b)))) := by
  unfold attrKeyS
  rw [textRead_wrap h hl]
  rfl
theorem right_kind {k : Int} {b : List UInt8} (h : rightS k b = true) : kindOk k = true := by unfold rightS at h; rw [Bool.and_eq_true] at h; exact h.1
/-- Texts with the same signs mean the same. -/
theorem same_signs {o : List Int} {k m : Int} {b c : List UInt8} (ho : oidOk o = true) (hb : rightS k b = true) (hc : rightS m c = true) (hs : signsS k b = signsS m c) (hl : b.length ≤ 16777216) (hm : c.length ≤ 16777216) :
    nameSameS (oneN o (wrapS (tagOf k) b)) (oneN o (wrapS (tagOf m) c)) = true := by
  unfold nameSameS
  rw [oneN_ok (attr_some ho (right_kind hb) hl), oneN_ok (attr_some ho (right_kind hc) hm), oneN_key, oneN_key, attrKey_wrap hb hl, attrKey_wrap hc hm, hs]
  simp
/-! ### An oid's text tells it -/
theorem numVal_snoc (l : List UInt8) (x : UInt8) : numVal (l ++ [x]) = 10 * numVal l + (x.toNat - 48) := by
  unfold numVal
  simp [List.foldl_append]
theorem dec_val (u : Nat) : numVal (Lib.decDigits u) = u ∧ ∀ x ∈ Lib.decDigits u, x ≠ 46 ∧ x ≠ 61 := by
  have hx : ∀ n : Nat, n < 10 → UInt8.ofNat (48 + n) ≠ 46 ∧ UInt8.ofNat (48 + n) ≠ 61 := by decide
  induction u using Nat.strongRecOn with
  | _ u ih =>
    rw [Lib.decDigits]
    by_cases h : u < 10
    · rw [dif_pos h]
      have e := u8 (48 + u) (by omega)
      exact ⟨by simp only [numVal, List.foldl_cons, List.foldl_nil, e]; omega, fun x hm => by rw [List.mem_singleton.1 hm]; exact hx u h⟩
    · rw [dif_neg h]
      obtain ⟨h1, h2⟩ := ih (u / 10) (by omega)
      have e := u8 (48 + u % 10) (by omega)
      refine ⟨by rw [numVal_snoc, h1, e]; omega, fun x hm => ?_⟩
      rcases List.mem_append.1 hm with hm | hm
      · exact h2 x hm
      · rw [List.mem_singleton.1 hm]
        exact hx (u % 10) (by omega)
theorem itoa_val {n : Int} (h : 0 ≤ n) : (numVal (Lib.itoa n) : Int) = n ∧ ∀ x ∈ Lib.itoa n, x ≠ 46 ∧ x ≠ 61 := by
  unfold Lib.itoa
  rw [if_neg (by omega)]
  obtain ⟨h1, h2⟩ := dec_val n.toNat
  exact ⟨by rw [h1]; omega, h2⟩
theorem cut_free (c : UInt8) : ∀ l : List UInt8, (∀ x ∈ l, x ≠ c) → ∀ r, cutAt c (l ++ c :: r) = l :: cutAt c r
  | [], _, r => by simp [cutAt]
  | x :: t, h, r => by
    have ih := cut_free c t (fun y hy => h y (by simp [hy])) r
    simp only [List.cons_append, cutAt, if_neg (h x (by simp)), ih]
theorem cut_alone (c : UInt8) : ∀ l : List UInt8, (∀ x ∈ l, x ≠ c) → cutAt c l = [l]
  | [], _ => rfl
  | x :: t, h => by
    simp only [cutAt, if_neg (h x (by simp)), cut_alone c t (fun y hy => h y (by simp [hy]))]
theorem oidText_cut : ∀ (n : Int) (t : List Int), (∀ m ∈ n :: t, 0 ≤ m) → cutAt 46 (oidTextS (n :: t)) = (n :: t).map Lib.itoa
  | n, [], h => by
    have hn := (itoa_val (h n (by simp))).2
    simp only [oidTextS, List.flatMap_nil, List.append_nil, List.map_cons, List.map_nil]
    exact cut_alone 46 _ (fun x hx => (hn x hx).1)
  | n, m :: t, h => by
    have hn := (itoa_val (h n (by simp))).2
    have ih := oidText_cut m t (fun y hy => h y (by simp [List.mem_cons.1 hy]))
    simp only [oidTextS] at ih
    simp only [oidTextS, List.flatMap_cons, List.cons_append]
    rw [cut_free 46 _ (fun x hx => (hn x hx).1), ih]
    simp
theorem oidText_inj {o p : List Int} (ho : oidOk o = true) (hp : oidOk p = true) (h : oidTextS o = oidTextS p) : o = p := by
  have key : ∀ {q : List Int}, oidOk q = true → 2 ≤ q.length ∧ ∀ n ∈ q, 0 ≤ n := fun {q} hq => by
    simp only [oidOk, Bool.and_eq_true, decide_eq_true_eq] at hq
    refine ⟨hq.1.1.1, fun n hn => ?_⟩
    have := List.all_eq_true.1 hq.1.2 n hn
    simp only [arcOk, decide_eq_true_eq] at this
    omega
  obtain ⟨h1, h2⟩ := key ho
  obtain ⟨h3, h4⟩ := key hp
  match o, p, h1, h3 with
  | x :: s, y :: t, _, _ =>
    have e := congrArg (cutAt 46) h
    rw [oidText_cut x s h2, oidText_cut y t h4] at e
    have e2 := congrArg (List.map fun l => (numVal l : Int)) e
    rw [List.map_map, List.map_map] at e2
    have e3 : ∀ {q : List Int}, (∀ n ∈ q, 0 ≤ n) → q.map ((fun l => (numVal l : Int)) ∘ Lib.itoa) = q := fun {q} hq => (List.map_congr_left (fun m hm => (itoa_val (hq m hm)).1)).trans (List.map_id q)
    rw [e3 h2, e3 h4] at e2
    exact e2
/-- Another type does not mean the same. -/
theorem same_types {o p : List Int} {k : Int} {b : List UInt8} (ho : oidOk o = true) (hp : oidOk p = true) (hb : rightS k b = true) (hl : b.length ≤ 16777216) :
    nameSameS (oneN o (wrapS (tagOf k) b)) (oneN p (wrapS (tagOf k) b)) = decide (o = p) := by
  unfold nameSameS
  rw [oneN_ok (attr_some ho (right_kind hb) hl), oneN_ok (attr_some hp (right_kind hb) hl), oneN_key, oneN_key, attrKey_wrap hb hl, attrKey_wrap hb hl, Bool.true_and, Bool.true_and]
  refine decide_eq_decide.2 ⟨fun h => oidText_inj ho hp (List.append_cancel_right h), fun h => by rw [h]⟩
end Go.Q

namespace Go.Q
open Go Go.RowKit
def knT1 : List UInt8 := [50, 46, 53, 46, 52, 46, 51, 61, 67, 65]
def knT2 : List UInt8 := [50, 46, 53, 46, 52, 46, 49, 48, 61, 32, 70, 111, 111, 32, 32, 66, 97, 114, 32]
def knT3 : List UInt8 := [50, 46, 53, 46, 52, 46, 51, 61, 99, 97]
def knT4 : List UInt8 := [50, 46, 53, 46, 52, 46, 49, 48, 61, 102, 111, 111, 32, 98, 97, 114]
def knV1 : List UInt8 := wrapS (tagOf 19) ([67, 65])
def knV2 : List UInt8 := wrapS (tagOf 19) ([32, 70, 111, 111, 32, 32, 66, 97, 114, 32])
def knV3 : List UInt8 := wrapS (tagOf 19) ([99, 97])
def knV4 : List UInt8 := wrapS (tagOf 19) ([102, 111, 111, 32, 98, 97, 114])
def knA : List (List Part) := [[⟨[2, 5, 4, 3], knV1⟩], [⟨[2, 5, 4, 10], knV2⟩]]
def knB : List (List Part) := [[⟨[2, 5, 4, 3], knV3⟩], [⟨[2, 5, 4, 10], knV4⟩]]
theorem knA_of : nameOfS [knT1, knT2] = .ok knA := by kernel_rfl
theorem knB_of : nameOfS [knT3, knT4] = .ok knB := by kernel_rfl
theorem knA_ok : nameOk knA = true := by kernel_rfl
theorem knA1_ok : nameOk (knA.take 1) = true := by kernel_rfl
theorem knB_ok : nameOk knB = true := by kernel_rfl
theorem name2_key (p q : Part) : nameKeyS [[p], [q]] = attrKeyS p.o p.b ++ ([47] ++ attrKeyS q.o q.b) := by
  unfold nameKeyS
  rw [List.map_cons, List.map_cons, List.map_nil, rdnKey_one, rdnKey_one, Lib.join_cons]
  simp [Lib.joinTail]
theorem kn_same : nameSameS knA knB = true := by
  unfold nameSameS
  rw [knA_ok, knB_ok]
  have e1 : foldS (signsS 19 ([67, 65])) = foldS (signsS 19 ([99, 97])) := by kernel_rfl
  have e2 : foldS (signsS 19 ([32, 70, 111, 111, 32, 32, 66, 97, 114, 32])) = foldS (signsS 19 ([102, 111, 111, 32, 98, 97, 114])) := by kernel_rfl
  have e : nameKeyS knA = nameKeyS knB := by
    unfold knA knB
    rw [name2_key, name2_key]
    unfold knV1 knV2 knV3 knV4
    rw [attrKey_wrap (by kernel_rfl) (of_decide_eq_true (by kernel_rfl)), attrKey_wrap (by kernel_rfl) (of_decide_eq_true (by kernel_rfl)), attrKey_wrap (by kernel_rfl) (of_decide_eq_true (by kernel_rfl)), attrKey_wrap (by kernel_rfl) (of_decide_eq_true (by kernel_rfl)), e1, e2]
  rw [e]
  simp
theorem kn_texts : textsS knA [2, 5, 4, 3] = [[67, 65]] := by
  unfold textsS
  rw [knA_ok]
  kernel_rfl
theorem kn_front : nameSameS knA (knA.take 1) = false := by
  unfold nameSameS
  rw [knA_ok, knA1_ok]
  have e : ¬ nameKeyS knA = nameKeyS (knA.take 1) := fun h => by
    have h2 := congrArg List.length h
    rw [show knA.take 1 = oneN [2, 5, 4, 3] knV1 from rfl, oneN_key] at h2
    unfold knA at h2
    rw [name2_key] at h2
    simp only [List.length_append, List.length_cons, List.length_nil] at h2
    omega
  rw [decide_eq_false e]
  rfl
theorem kn_few : ∀ r ∈ knA, fewB r := by
  intro r hr p hp
  simp only [knA, List.mem_cons, List.not_mem_nil, or_false] at hr
  rcases hr with rfl | rfl <;> (rw [List.mem_singleton.1 hp]; exact of_decide_eq_true (by kernel_rfl))
theorem kn_fewB : ∀ r ∈ knB, fewB r := by
  intro r hr p hp
  simp only [knB, List.mem_cons, List.not_mem_nil, or_false] at hr
  rcases hr with rfl | rfl <;> (rw [List.mem_singleton.1 hp]; exact of_decide_eq_true (by kernel_rfl))
/-- The first steps of a name. -/
theorem NameAt.take {w : World} {a : Option Addr} {m cap : Nat} {n : List (List Part)} (h : NameAt w (.slice a m cap) n) (k : Nat) (hk : k ≤ n.length) (cap' : Nat) (hc : k ≤ cap') (hm : cap' ≤ maxLen) : NameAt w (.slice a k cap') (n.take k) := by
  obtain ⟨a0, cap0, he, h1, h2, h3⟩ := h
  simp only [Value.slice.injEq] at he
  obtain ⟨rfl, rfl, rfl⟩ := he
  have hl : (n.take k).length = k := by rw [List.length_take]; omega
  refine ⟨a, cap', by rw [hl], by omega, hm, fun h0 => ?_⟩
  obtain ⟨b, o, rfl, hy⟩ := h3 (by omega)
  refine ⟨b, o, rfl, fun i r hr => hy i r ?_⟩
  rw [List.getElem?_take] at hr
  split at hr
  · exact hr
  · cases hr
end Go.Q

namespace Go.Proofs.YtgffhiopbnkjbaaGreatDoor
open Go Go.RowKit Go.Q

set_option maxRecDepth 20000 in
set_option maxHeartbeats 2000000 in
theorem nmKnown_any (w : World) (hE : Env w) :
    Calls Tryz.prog 12 #[] w fun e w' => e = .returned (.bool true) ∧ Fr (fun _ => False) w w' := by
  have HE := Lib.hid hE
  have strs2 : ∀ (W : World) (x y : List UInt8), Strs (W.alloc (.cells #[str x, str y] 9)) (.slice (some ⟨W.heap.size, 0, none⟩) 2 2) [x, y] := fun W x y => Vals.of_block (Blk.new W 9 #[str x, str y]) (by unfold maxLen; simp)
  have few2 : ∀ x y : List UInt8, x.length ≤ 10000000 → y.length ≤ 10000000 → ∀ k ∈ [x, y], k.length ≤ 10000000 := fun x y hx hy k hk => by
    rcases List.mem_cons.1 hk with rfl | hk
    · exact hx
    · rw [List.mem_singleton.1 hk]; exact hy
  have HS2 := Lib.hid strs2
  have HF2 := Lib.hid few2
  clear hE strs2 few2
  go_enter Tryz.func12, Tryz.ntmps12
  go_wp2_with fail
  have G1 : Fr (fun _ => False) w (w.alloc (.cells #[str knT1, str knT2] 9)) := (Fr.refl w).alloc _
  refine (nameOf_any _ [knT1, knT2] _ (HS2.out w knT1 knT2) (HE.out.old G1) (HF2.out knT1 knT2 (by decide) (by decide)) (by simp)).mono ?_
  rintro e w1 ⟨hout, F1⟩
  unfold NameOfOut at hout
  rw [knA_of] at hout
  obtain ⟨vA, rfl, hA⟩ := hout
  have hAt := hA.at
  obtain ⟨aA, cA, rfl⟩ := hA.shape
  have hcA : 2 ≤ cA := by
    obtain ⟨a0, c0, he, h1, _⟩ := hAt
    simp only [Value.slice.injEq] at he
    obtain ⟨-, -, rfl⟩ := he
    exact h1
  have hmA : cA ≤ maxLen := by
    obtain ⟨a0, c0, he, _, h1, _⟩ := hAt
    simp only [Value.slice.injEq] at he
    obtain ⟨-, -, rfl⟩ := he
    exact h1
  rw [show knA.length = 2 from rfl] at *
  have HA := Lib.hid hAt
  have HG1 := Lib.hid (G1.trans F1)
  have HMA := Lib.hid hmA
  clear hA hAt F1 G1 hmA
  go_wp2_with fail
  have G2 : Fr (fun _ => False) w1 (w1.alloc (.cells #[str knT3, str knT4] 9)) := (Fr.refl w1).alloc _
  refine (nameOf_any _ [knT3, knT4] _ (HS2.out w1 knT3 knT4) ((HE.out.old HG1.out).old G2) (HF2.out knT3 knT4 (by decide) (by decide)) (by simp)).mono ?_
  rintro e w2 ⟨hout, F2⟩
  unfold NameOfOut at hout
  rw [knB_of] at hout
  obtain ⟨vB, rfl, hB⟩ := hout
  have hBt := hB.at
  obtain ⟨aB, cB, rfl⟩ := hB.shape
  rw [show knB.length = 2 from rfl] at *
  have HA2 := Lib.hid (HA.out.old (G2.trans F2))
  have HB2 := Lib.hid hBt
  have HG2 := Lib.hid ((HG1.out.trans G2).trans F2)
  clear hB hBt F2 G2 HA HG1
  go_wp2_with fail
  have G3 : Fr (fun _ => False) w2 (w2.alloc (.cells #[.int .i64 2, .int .i64 5, .int .i64 4, .int .i64 3] 3)) := (Fr.refl w2).alloc _
  have hI : Ints (w2.alloc (.cells #[.int .i64 2, .int .i64 5, .int .i64 4, .int .i64 3] 3)) (.slice (some ⟨w2.heap.size, 0, none⟩) 4 4) [2, 5, 4, 3] := Vals.of_block (Blk.new w2 3 #[.int .i64 2, .int .i64 5, .int .i64 4, .int .i64 3]) (by unfold maxLen; simp)
  refine (texts_any _ _ knA [2, 5, 4, 3] _ (HA2.out.old G3) hI kn_few ((HE.out.old HG2.out).old G3)).mono ?_
  rintro e w3 ⟨⟨x, rfl, hx⟩, F3⟩
  rw [kn_texts] at hx
  obtain ⟨ax, cx, rfl, -, -, hy⟩ := hx.form
  obtain ⟨bx, ox, rfl, hz⟩ := hy (by simp)
  have ex := hz 0 _ rfl
  simp only [Nat.add_zero] at ex
  simp only [List.length_cons, List.length_nil, Nat.zero_add] at *
  have HA3 := Lib.hid (HA2.out.old (G3.trans F3))
  have HB3 := Lib.hid (HB2.out.old (G3.trans F3))
  have HG3 := Lib.hid ((HG2.out.trans G3).trans F3)
  have HEX := Lib.hid ex
  clear hx hy hz hI F3 G3 HA2 HB2 HG2
  have HC1 := Lib.hid (nameSame_any _ _ knA knB w3 HA3.out HB3.out kn_few kn_fewB (HE.out.old HG3.out))
  rw [kn_same] at HC1
  go_wp2_with fail
  refine HC1.out.mono ?_
  rintro e w4 ⟨rfl, F4⟩
  have ex4 := F4.cell HEX.out (fun h => h)
  have hq1 : (([67, 65] : List UInt8) == [67, 65]) = true := rfl
  have r1 : (1 : Int) ≤ (cA : Int) := by omega
  have HA4 := Lib.hid (HA3.out.old F4)
  have HC2 := Lib.hid (nameSame_any _ _ knA (knA.take 1) w4 HA4.out (NameAt.take HA4.out 1 (by decide) cA (by omega) HMA.out) kn_few (fun r hr => kn_few r (List.mem_of_mem_take hr)) (HE.out.old (HG3.out.trans F4)))
  rw [kn_front] at HC2
  have HG4 := Lib.hid (HG3.out.trans F4)
  clear F4 ex HC1
  go_wp2_with fail
  refine HC2.out.mono ?_
  rintro e w5 ⟨rfl, F5⟩
  go_wp2_with fail
  go_ret
  exact ⟨rfl, HG4.out.trans F5⟩
end Go.Proofs.YtgffhiopbnkjbaaGreatDoor

namespace Go.Q
open Go Go.RowKit
/-- The value, the place, the error of a reading. -/
def nmVal : Except Int (List (List Part) × Nat) → List (List Part) | .ok (n, _) => n | .error _ => []
def stVal : Except Int (List Part × Nat) → List Part | .ok (n, _) => n | .error _ => []
def psVal : Except Int (List (List Part)) → List (List Part) | .ok n => n | .error _ => []
def atOf {α : Type} : Except Int (α × Nat) → Nat | .ok (_, k) => k | .error _ => 0
def errOf {α : Type} : Except Int α → Int | .ok _ => 0 | .error x => x
theorem NameAt.nil0 (w : World) : NameAt w (.slice none 0 0) [] := ⟨none, 0, rfl, Nat.le_refl _, Nat.zero_le _, fun h => absurd h (Nat.lt_irrefl _)⟩
theorem Attrs.nil0 (w : World) : Attrs w (.slice none 0 0) [] := ⟨none, 0, rfl, Nat.le_refl _, Nat.zero_le _, fun h => absurd h (Nat.lt_irrefl _)⟩
/-- A name of one step in memory. -/
theorem NameAt.one {w : World} {g : Nat} {t : TypeId} {u : Value} {r : List Part} (B : Blk w g t #[u]) (h : Attrs w u r) : NameAt w (.slice (some ⟨g, 0, none⟩) 1 1) [r] :=
  ⟨_, 1, rfl, Nat.le_refl _, by unfold maxLen; omega, fun _ => ⟨g, 0, rfl, fun i q hq => by
    match i, hq with
    | 0, hq =>
      simp only [List.getElem?_cons_zero, Option.some.injEq] at hq
      subst hq
      exact ⟨u, B.cell 0, h⟩
    | i + 1, hq => simp at hq⟩⟩
theorem rdnGo_small : ∀ (f : Nat) (out : List Part) (last l : List UInt8) (r : List Part), out.length ≤ 16 → l.length ≤ f → rdnGoS f out last l = .ok r → r.length ≤ 16
  | 0, out, last, l, r, ho, hl, h => by
    obtain rfl : l = [] := List.length_eq_zero_iff.1 (by omega)
    simp only [rdnGoS] at h
    split at h
    · cases h
    · cases h; exact ho
  | f + 1, out, last, [], r, ho, hl, h => by
    simp only [rdnGoS] at h
    split at h
    · cases h
    · cases h; exact ho
  | f + 1, out, last, x :: t, r, ho, hl, h => by
    simp only [rdnGoS] at h
    split at h
    · cases h
    rename_i h16
    split at h
    · cases h
    rename_i q m hx
    have hb := partRead_back hx
    split at h
    · cases h
    split at h
    · cases h
    exact rdnGo_small f _ _ _ r (by rw [List.length_append, List.length_singleton]; omega) (by simp only [List.length_drop, List.length_cons] at hl ⊢; omega) h
theorem rdnRead_small {l : List UInt8} {r : List Part} {k : Nat} (h : rdnReadS l = .ok (r, k)) : r.length ≤ 16 := by
  unfold rdnReadS at h
  split at h
  · cases h
  split at h
  · cases h
  rename_i hx
  simp only [Except.ok.injEq, Prod.mk.injEq] at h
  obtain ⟨rfl, -⟩ := h
  exact rdnGo_small _ [] [] _ _ (by simp) (Nat.le_refl _) hx
theorem nameGo_small : ∀ (f : Nat) (out : List (List Part)) (l : List UInt8) (n : List (List Part)), out.length ≤ 64 → (∀ r ∈ out, r.length ≤ 16) → l.length ≤ f → nameGoS f out l = .ok n → n.length ≤ 64 ∧ ∀ r ∈ n, r.length ≤ 16
  | 0, out, l, n, ho, hr, hl, h => by
    obtain rfl : l = [] := List.length_eq_zero_iff.1 (by omega)
    cases h
    exact ⟨ho, hr⟩
  | f + 1, out, [], n, ho, hr, hl, h => by
    cases h
    exact ⟨ho, hr⟩
  | f + 1, out, x :: t, n, ho, hr, hl, h => by
    simp only [nameGoS] at h
    split at h
    · cases h
    rename_i h64
    split at h
    · cases h
    rename_i q m hx
    have hb := rdnRead_len hx
    have hs := rdnRead_small hx
    exact nameGo_small f _ _ n (by rw [List.length_append, List.length_singleton]; omega) (fun r hm => by
      rcases List.mem_append.1 hm with hm | hm
      · exact hr r hm
      · rw [List.mem_singleton.1 hm]; exact hs) (by simp only [List.length_drop, List.length_cons] at hl ⊢; omega) h
theorem nmVal_small (l : List UInt8) : (nmVal (nameReadS l)).length ≤ 64 ∧ ∀ r ∈ nmVal (nameReadS l), r.length ≤ 16 := by
  cases h : nameReadS l with
  | error x => exact ⟨by simp [nmVal], by simp [nmVal]⟩
  | ok nk =>
    obtain ⟨n, k⟩ := nk
    unfold nameReadS at h
    split at h
    · cases h
    split at h
    · cases h
    rename_i hx
    simp only [Except.ok.injEq, Prod.mk.injEq] at h
    obtain ⟨rfl, -⟩ := h
    exact nameGo_small _ [] _ _ (by simp) (by simp) (Nat.le_refl _) hx
theorem psVal_eq (l : List UInt8) : psVal (nameParseS l) = [] ∨ psVal (nameParseS l) = nmVal (nameReadS l) := by
  unfold nameParseS
  split
  · exact .inl rfl
  · split
    · exact .inl rfl
    · rename_i h _
      rw [h]
      exact .inr rfl
theorem stVal_small (l : List UInt8) : (stVal (rdnReadS l)).length ≤ 16 := by
  cases h : rdnReadS l with
  | error x => simp [stVal]
  | ok nk =>
    obtain ⟨n, k⟩ := nk
    exact rdnRead_small h
end Go.Q
namespace Go.Proofs.YtgffhiopbnkjbaaGreatDoor
open Go Go.RowKit Go.Q
set_option linter.unusedSimpArgs false

theorem nameRead_one {w : World} {c : Nat} {K : Nat → Prop} {bs : List UInt8} {p : Nat} (h : CurAt w c K bs p) (hbs : bs.length ≤ 10000000) :
    Calls Tryz.prog 31 #[pt c] w fun e w' => (∃ a cc, e = .returned (.tuple #[.slice a (nmVal (nameReadS (bs.drop p))).length cc, .int .i64 (errOf (nameReadS (bs.drop p)))]) ∧ Kept (fun W => NameAt W (.slice a (nmVal (nameReadS (bs.drop p))).length cc) (nmVal (nameReadS (bs.drop p)))) (fun k => k < w.heap.size) w' ∧ CurAt w' c K bs (p + atOf (nameReadS (bs.drop p)))) ∧ Fr (fun k => k = c) w w' :=
  (nameRead_any h hbs).mono fun e w' ⟨h1, F⟩ => by
    refine ⟨?_, F⟩
    unfold nameReadOut at h1
    cases hr : nameReadS (bs.drop p) with
    | error x =>
      rw [hr] at h1
      exact ⟨none, 0, h1.1, fun W _ => NameAt.nil0 W, h1.2.2⟩
    | ok lm =>
      rw [hr] at h1
      exact h1
theorem rdnRead_one {w : World} {c : Nat} {K : Nat → Prop} {bs : List UInt8} {p : Nat} (h : CurAt w c K bs p) (hbs : bs.length ≤ 10000000) :
    Calls Tryz.prog 33 #[pt c] w fun e w' => (∃ a cc, e = .returned (.tuple #[.slice a (stVal (rdnReadS (bs.drop p))).length cc, .int .i64 (errOf (rdnReadS (bs.drop p)))]) ∧ Kept (fun W => Attrs W (.slice a (stVal (rdnReadS (bs.drop p))).length cc) (stVal (rdnReadS (bs.drop p)))) (fun k => k < w.heap.size) w' ∧ CurAt w' c K bs (p + atOf (rdnReadS (bs.drop p)))) ∧ Fr (fun k => k = c) w w' :=
  (rdnRead_any h hbs).mono fun e w' ⟨h1, F⟩ => by
    refine ⟨?_, F⟩
    unfold rdnReadOut at h1
    cases hr : rdnReadS (bs.drop p) with
    | error x =>
      rw [hr] at h1
      exact ⟨none, 0, h1.1, fun W _ => Attrs.nil0 W, h1.2.2⟩
    | ok lm =>
      rw [hr] at h1
      exact h1
theorem nameParse_one (v : Value) (bs : List UInt8) (w : World) (h : Bytes w v bs) (hbs : bs.length ≤ 10000000) :
    Calls Tryz.prog 35 #[v] w fun e w' => (∃ a cc, e = .returned (.tuple #[.slice a (psVal (nameParseS bs)).length cc, .int .i64 (errOf (nameParseS bs))]) ∧ NameAt w' (.slice a (psVal (nameParseS bs)).length cc) (psVal (nameParseS bs))) ∧ Fr (fun _ => False) w w' :=
  (nameParse_any v bs w h hbs).mono fun e w' ⟨h1, F⟩ => by
    refine ⟨?_, F⟩
    unfold nameParseOut at h1
    cases hr : nameParseS bs with
    | error x =>
      rw [hr] at h1
      exact ⟨none, 0, h1.1, NameAt.nil0 w'⟩
    | ok lm =>
      rw [hr] at h1
      obtain ⟨a, c, h2, h3⟩ := h1
      exact ⟨a, c, h2, h3.now⟩
theorem r14Read_one (v : Value) (l : List UInt8) (K : Nat → Prop) (w : World) (h : Kept (fun W => Bytes W v l) K w) (hK : ∀ k, K k → k < w.heap.size) (hlm : l.length ≤ 10000000) :
    Calls Tryz.prog 32 #[v, .int .i64 0] w fun e w' => (∃ a c, e = .returned (.tuple #[.slice a (nmVal (nameReadS l)).length c, .int .i64 (atOf (nameReadS l) : Nat), .int .i64 (errOf (nameReadS l))]) ∧ Kept (fun W => NameAt W (.slice a (nmVal (nameReadS l)).length c) (nmVal (nameReadS l))) K w') ∧ Fr (fun _ => False) w w' :=
  (r14Read_any v l 0 K w h hK (Nat.zero_le _) hlm).mono fun e w' ⟨h1, F⟩ => by
    rw [List.drop_zero] at h1
    refine ⟨?_, F⟩
    unfold rNameOut at h1
    cases hr : nameReadS l with
    | error x =>
      rw [hr] at h1
      exact ⟨none, 0, h1, fun W _ => NameAt.nil0 W⟩
    | ok lm =>
      rw [hr] at h1
      obtain ⟨n, k⟩ := lm
      obtain ⟨a, c, h2, h3⟩ := h1
      rw [Nat.zero_add] at h2
      exact ⟨a, c, h2, h3⟩
theorem r14ReadStep_one (v : Value) (l : List UInt8) (K : Nat → Prop) (w : World) (h : Kept (fun W => Bytes W v l) K w) (hK : ∀ k, K k → k < w.heap.size) (hlm : l.length ≤ 10000000) :
    Calls Tryz.prog 34 #[v, .int .i64 0] w fun e w' => (∃ a c, e = .returned (.tuple #[.slice a (stVal (rdnReadS l)).length c, .int .i64 (atOf (rdnReadS l) : Nat), .int .i64 (errOf (rdnReadS l))]) ∧ Kept (fun W => Attrs W (.slice a (stVal (rdnReadS l)).length c) (stVal (rdnReadS l))) K w') ∧ Fr (fun _ => False) w w' :=
  (r14ReadStep_any v l 0 K w h hK (Nat.zero_le _) hlm).mono fun e w' ⟨h1, F⟩ => by
    rw [List.drop_zero] at h1
    refine ⟨?_, F⟩
    unfold rStepOut at h1
    cases hr : rdnReadS l with
    | error x =>
      rw [hr] at h1
      exact ⟨none, 0, h1, fun W _ => Attrs.nil0 W⟩
    | ok lm =>
      rw [hr] at h1
      obtain ⟨n, k⟩ := lm
      obtain ⟨a, c, h2, h3⟩ := h1
      rw [Nat.zero_add] at h2
      exact ⟨a, c, h2, h3⟩
theorem r14Parse_one (v : Value) (l : List UInt8) (K : Nat → Prop) (w : World) (h : Kept (fun W => Bytes W v l) K w) (hK : ∀ k, K k → k < w.heap.size) (hlm : l.length ≤ 10000000) :
    Calls Tryz.prog 36 #[v] w fun e w' => (∃ a c, e = .returned (.tuple #[.slice a (psVal (nameParseS l)).length c, .int .i64 (errOf (nameParseS l))]) ∧ NameAt w' (.slice a (psVal (nameParseS l)).length c) (psVal (nameParseS l))) ∧ Fr (fun _ => False) w w' :=
  (r14Parse_any v l K w h hK hlm).mono fun e w' ⟨h1, F⟩ => by
    refine ⟨?_, F⟩
    unfold rParseOut at h1
    cases hr : nameParseS l with
    | error x =>
      rw [hr] at h1
      exact ⟨none, 0, h1, NameAt.nil0 w'⟩
    | ok lm =>
      rw [hr] at h1
      obtain ⟨a, c, h2, h3⟩ := h1
      exact ⟨a, c, h2, h3.now⟩
theorem like_self (v u : Value) (n : List (List Part)) (w : World) (h : NameAt w v n) (hu : NameAt w u n) :
    Calls Tryz.prog 24 #[v, u] w fun e w' => e = .returned (.bool true) ∧ Fr (fun _ => False) w w' := by
  have := r14Like_any v u n n w h hu
  rwa [decide_eq_true rfl] at this

set_option maxRecDepth 100000 in
set_option maxHeartbeats 8000000 in
theorem nrWalk_any (v : Value) (b0 : List UInt8) (w : World) (h : Bytes w v b0) (hE : Env w) :
    Calls Tryz.prog 6 #[v] w fun e w' => e = .returned (.bool true) ∧ Fr (fun _ => False) w w' := by
  obtain ⟨a0, cap, rfl, hc, hm, -⟩ := h.form
  obtain ⟨m, hmm⟩ : ∃ m : Nat, m = min b0.length 3000 := ⟨_, rfl⟩
  have H := Lib.hid (h.cut 3000 m hmm)
  obtain ⟨b, hb⟩ : ∃ b, b = b0.take 3000 := ⟨_, rfl⟩
  rw [← hb] at H
  have hbl : b.length ≤ 10000000 := by rw [hb, List.length_take]; omega
  have hbm : b.length = m := by rw [hb, List.length_take]; omega
  have q1 : min (b0.length : Int) 3000 = (m : Int) := by omega
  have q2 : (0 : Int) ≤ (m : Int) := by omega
  have q3 : (m : Int) ≤ (cap : Int) := by omega
  have HE := Lib.hid hE
  obtain ⟨rn, hrn⟩ : ∃ rn, rn = nameReadS b := ⟨_, rfl⟩
  obtain ⟨rs, hrs⟩ : ∃ rs, rs = rdnReadS b := ⟨_, rfl⟩
  obtain ⟨rp, hrp⟩ : ∃ rp, rp = nameParseS b := ⟨_, rfl⟩
  have s1 := Lib.hid (nmVal_small b)
  have s2 := Lib.hid (stVal_small b)
  have s3 := psVal_eq b
  rw [← hrn] at s1 s3
  rw [← hrs] at s2
  rw [← hrp] at s3
  have S4 : (psVal rp).length ≤ 64 ∧ ∀ r ∈ psVal rp, r.length ≤ 16 := by
    rcases s3 with h | h
    · rw [h]; exact ⟨by simp, by simp⟩
    · rw [h]; exact s1.out
  have s4 := Lib.hid S4
  have HRN := Lib.hid hrn
  have HRS := Lib.hid hrs
  have HRP := Lib.hid hrp
  have HBM := Lib.hid hbm
  clear h hE hb hrn hrs hrp s3 S4 hbm hmm hm hc
  go_enter Tryz.func6, Tryz.ntmps6
  go_wp2_with fail
  refine (new_any w _ b H.out (by omega)).mono ?_
  rintro e w1 ⟨rfl, C1, F1⟩
  obtain ⟨c, hcc⟩ : ∃ c, c = w.heap.size := ⟨_, rfl⟩
  have hs1 := F1.size
  have hc1 := C1.lt
  have H1 := Lib.hid (H.out.old F1)
  have HF1 := Lib.hid F1
  rw [← hcc] at C1 ⊢
  have HC1 := Lib.hid (C1.step (K' := fun k => k < c ∨ w1.heap.size ≤ k) (Fr.refl w1) (S := fun _ => False) (fun _ _ h => h.elim) (fun _ h => h))
  have HCC := Lib.hid hcc
  rw [← hcc] at hc1
  clear C1 F1 hcc
  go_wp2_with fail
  refine (new_any w1 _ b H1.out (by omega)).mono ?_
  rintro e w2 ⟨rfl, C2, F2⟩
  obtain ⟨d, hdd⟩ : ∃ d, d = w1.heap.size := ⟨_, rfl⟩
  have hs2 := F2.size
  have hd2 := C2.lt
  have HF2 := Lib.hid (HF1.out.trans F2)
  rw [← hdd] at C2 hd2 ⊢
  have HD2 := Lib.hid (C2.step (K' := fun k => k < d ∨ w2.heap.size ≤ k) (Fr.refl w2) (S := fun _ => False) (fun _ _ h => h.elim) (fun k h => h))
  have HC2 := Lib.hid (HC1.out.old F2)
  have HR := Lib.hid (nameRead_one HC2.out hbl)
  rw [List.drop_zero, ← HRN.out, Nat.zero_add] at HR
  have HDD := Lib.hid hdd
  clear C2 F2 HF1 H1 HC1 hdd
  go_wp2_with fail
  refine HR.out.mono ?_
  rintro e w3 ⟨⟨ax, cx, rfl, hx, C3⟩, F3⟩
  have HX3 := Lib.hid (hx.step (K' := fun k => k = d) (Fr.refl w3) (S := fun _ => False) (fun _ _ h => h.elim) (fun k e => .inl (by have := HDD.out; omega)))
  have HC3 := Lib.hid C3
  have HD3 := Lib.hid (HD2.out.step (K' := fun k => k < d ∨ w2.heap.size ≤ k) F3 (fun k _ e => .inl (by have := HCC.out; have := HDD.out; omega)) (fun k h => .inl h))
  have HF3 := Lib.hid (HF2.out.trans' F3 (fun i hi e => by have := HCC.out; omega))
  have hs3 := F3.size
  have HV3 := Lib.hid (show Kept (fun W => Bytes W (.slice a0 m cap) b) (fun k => k = d) w3 from fun W f => H.out.old (HF3.out.trans' f (fun i hi e => by have := HDD.out; omega)))
  have HR3 := Lib.hid (r14Read_one _ b (fun k => k = d) w3 HV3.out (fun k e => by omega) hbl)
  rw [← HRN.out] at HR3
  clear hx C3 F3 HR HC2 HD2 HF2
  go_wp2_with fail
  refine HR3.out.mono ?_
  rintro e w4 ⟨⟨ay, cy, rfl, hy⟩, F4⟩
  have HX4 := Lib.hid (HX3.out.old F4)
  have HY4 := Lib.hid hy
  have HC4 := Lib.hid (HC3.out.old F4)
  have HD4 := Lib.hid (HD3.out.old F4)
  have HF4 := Lib.hid (HF3.out.trans F4)
  have HR4 := Lib.hid (rdnRead_one HD4.out hbl)
  rw [List.drop_zero, ← HRS.out, Nat.zero_add] at HR4
  have hs4 := F4.size
  clear hy F4 HR3 HX3 HC3 HD3 HF3 HV3
  go_wp2_with fail
  refine HR4.out.mono ?_
  rintro e w5 ⟨⟨ar, cr, rfl, hr, D5⟩, F5⟩
  have hs5 := F5.size
  have HX5 := Lib.hid (HX4.out w5 (F5.mono (fun _ _ h => h)))
  have HY5 := Lib.hid (HY4.out w5 (F5.mono (fun _ _ h => h)))
  have HRR5 := Lib.hid hr.now
  have HD5 := Lib.hid D5
  have HC5 := Lib.hid (HC4.out.step (K' := fun k => k < c ∨ w1.heap.size ≤ k) F5 (fun k _ e => .inr (by have := HDD.out; omega)) (fun k h => .inl h))
  have HF5 := Lib.hid (HF4.out.trans' F5 (fun i hi e => by have := HDD.out; omega))
  have HR5 := Lib.hid (r14ReadStep_one _ b (fun _ => False) w5 (fun W f => H.out.old (HF5.out.trans f)) (fun k e => e.elim) hbl)
  rw [← HRS.out] at HR5
  clear hr D5 F5 HR4 HX4 HY4 HC4 HD4 HF4
  go_wp2_with fail
  refine HR5.out.mono ?_
  rintro e w6 ⟨⟨as1, cs1, rfl, hs⟩, F6⟩
  have HX6 := Lib.hid (HX5.out.old F6)
  have HY6 := Lib.hid (HY5.out.old F6)
  have HRR6 := Lib.hid (HRR5.out.old F6)
  have HS6 := Lib.hid hs.now
  have HC6 := Lib.hid (HC5.out.old F6)
  have HD6 := Lib.hid (HD5.out.old F6)
  have HF6 := Lib.hid (HF5.out.trans F6)
  have HR6 := Lib.hid (nameParse_one _ b w6 (H.out.old HF6.out) hbl)
  rw [← HRP.out] at HR6
  clear hs F6 HR5 HX5 HY5 HC5 HD5 HF5 HRR5
  go_wp2_with fail
  refine HR6.out.mono ?_
  rintro e w7 ⟨⟨az, cz, rfl, hz⟩, F7⟩
  have HX7 := Lib.hid (HX6.out.old F7)
  have HY7 := Lib.hid (HY6.out.old F7)
  have HRR7 := Lib.hid (HRR6.out.old F7)
  have HS7 := Lib.hid (HS6.out.old F7)
  have HZ7 := Lib.hid hz
  have HC7 := Lib.hid (HC6.out.old F7)
  have HD7 := Lib.hid (HD6.out.old F7)
  have HF7 := Lib.hid (HF6.out.trans F7)
  have HR7 := Lib.hid (r14Parse_one _ b (fun _ => False) w7 (fun W f => H.out.old (HF7.out.trans f)) (fun k e => e.elim) hbl)
  rw [← HRP.out] at HR7
  clear hz F7 HR6 HX6 HY6 HC6 HD6 HF6 HRR6 HS6
  go_wp2_with fail
  refine HR7.out.mono ?_
  rintro e w8 ⟨⟨aw, cw, rfl, hw⟩, F8⟩
  have HX8 := Lib.hid (HX7.out.old F8)
  have HY8 := Lib.hid (HY7.out.old F8)
  have HRR8 := Lib.hid (HRR7.out.old F8)
  have HS8 := Lib.hid (HS7.out.old F8)
  have HZ8 := Lib.hid (HZ7.out.old F8)
  have HW8 := Lib.hid hw
  have HC8 := Lib.hid (HC7.out.old F8)
  have HD8 := Lib.hid (HD7.out.old F8)
  have HF8 := Lib.hid (HF7.out.trans F8)
  have HK := Lib.hid (nmKnown_any _ (HE.out.old HF8.out))
  clear hw F8 HR7 HX7 HY7 HC7 HD7 HF7 HRR7 HS7 HZ7
  go_wp2_with fail
  refine HK.out.mono ?_
  rintro e w9 ⟨rfl, F9⟩
  have HX9 := Lib.hid (HX8.out.old F9)
  have HY9 := Lib.hid (HY8.out.old F9)
  have HRR9 := Lib.hid (HRR8.out.old F9)
  have HS9 := Lib.hid (HS8.out.old F9)
  have HZ9 := Lib.hid (HZ8.out.old F9)
  have HW9 := Lib.hid (HW8.out.old F9)
  have HC9 := Lib.hid (HC8.out.old F9)
  have HD9 := Lib.hid (HD8.out.old F9)
  have HF9 := Lib.hid (HF8.out.trans F9)
  clear F9 HK HX8 HY8 HC8 HD8 HF8 HRR8 HS8 HZ8 HW8
  have big : ∀ l : List (List Part), (l.length ≤ 64 ∧ ∀ r ∈ l, r.length ≤ 16) → l.length ≤ 1000000 ∧ ∀ r ∈ l, r.length ≤ 1000000 := fun l h => ⟨by omega, fun r hr => by have := h.2 r hr; omega⟩
  have HBIG := Lib.hid big
  clear big
  have HO := Lib.hid (lawOf_any _ _ w9 HX9.out (HBIG.out _ s1.out).1 (HBIG.out _ s1.out).2)
  go_wp2_with fail
  refine HO.out.mono ?_
  rintro e w10 ⟨⟨aq, cq, rfl, hq⟩, F10⟩
  have HQ10 := Lib.hid hq.at
  clear hq HX9
  have HY10 := Lib.hid (HY9.out.old F10)
  have HRR10 := Lib.hid (HRR9.out.old F10)
  have HS10 := Lib.hid (HS9.out.old F10)
  have HZ10 := Lib.hid (HZ9.out.old F10)
  have HW10 := Lib.hid (HW9.out.old F10)
  have HC10 := Lib.hid (HC9.out.old F10)
  have HD10 := Lib.hid (HD9.out.old F10)
  have HF10 := Lib.hid (HF9.out.trans F10)
  clear F10 HO HY9 HRR9 HS9 HZ9 HW9 HC9 HD9 HF9
  have HO := Lib.hid (like_self _ _ _ w10 HQ10.out HY10.out)
  go_wp2_with fail
  refine HO.out.mono ?_
  rintro e w11 ⟨rfl, F11⟩
  clear HQ10 HY10
  have HRR11 := Lib.hid (HRR10.out.old F11)
  have HS11 := Lib.hid (HS10.out.old F11)
  have HZ11 := Lib.hid (HZ10.out.old F11)
  have HW11 := Lib.hid (HW10.out.old F11)
  have HC11 := Lib.hid (HC10.out.old F11)
  have HD11 := Lib.hid (HD10.out.old F11)
  have HF11 := Lib.hid (HF10.out.trans F11)
  clear F11 HO HRR10 HS10 HZ10 HW10 HC10 HD10 HF10
  have HO := Lib.hid (at_any HC11.out)
  go_wp2_with fail
  refine HO.out.mono ?_
  rintro e w11' ⟨rfl, rfl⟩
  clear HO HC11
  have FA : Fr (fun _ => False) w11 (w11.alloc (.cells #[.slice ar (stVal rs).length cr] 41)) := (Fr.refl w11).alloc _
  have HN1 := Lib.hid (NameAt.one (Blk.new w11 41 #[.slice ar (stVal rs).length cr]) (HRR11.out.old FA))
  have HSa := Lib.hid (HS11.out.old FA)
  have HZa := Lib.hid (HZ11.out.old FA)
  have HWa := Lib.hid (HW11.out.old FA)
  have HDa := Lib.hid (HD11.out.old FA)
  have HFa := Lib.hid (HF11.out.trans FA)
  clear FA HRR11 HS11 HZ11 HW11 HD11 HF11
  have HO := Lib.hid (lawOf_any _ _ _ HN1.out (by simp) (fun r hr => by rw [List.mem_singleton.1 hr]; have := s2.out; omega))
  go_wp2_with fail
  refine HO.out.mono ?_
  rintro e w12 ⟨⟨at1, ct1, rfl, hq⟩, F12⟩
  have HQ12 := Lib.hid hq.at
  have HS12 := Lib.hid (HSa.out.old F12)
  have HZ12 := Lib.hid (HZa.out.old F12)
  have HW12 := Lib.hid (HWa.out.old F12)
  have HD12 := Lib.hid (HDa.out.old F12)
  have HF12 := Lib.hid (HFa.out.trans F12)
  clear hq F12 HO HN1 HSa HZa HWa HDa HFa
  have FA : Fr (fun _ => False) w12 (w12.alloc (.cells #[.slice as1 (stVal rs).length cs1] 60)) := (Fr.refl w12).alloc _
  have HN1 := Lib.hid (NameAt.one (Blk.new w12 60 #[.slice as1 (stVal rs).length cs1]) (HS12.out.old FA))
  have HZa := Lib.hid (HZ12.out.old FA)
  have HWa := Lib.hid (HW12.out.old FA)
  have HDa := Lib.hid (HD12.out.old FA)
  have HFa := Lib.hid (HF12.out.trans FA)
  have HO := Lib.hid (like_self _ _ _ _ (HQ12.out.old FA) HN1.out)
  clear FA HS12 HQ12 HZ12 HW12 HD12 HF12
  go_wp2_with fail
  refine HO.out.mono ?_
  rintro e w13 ⟨rfl, F13⟩
  have HZ13 := Lib.hid (HZa.out.old F13)
  have HW13 := Lib.hid (HWa.out.old F13)
  have HD13 := Lib.hid (HDa.out.old F13)
  have HF13 := Lib.hid (HFa.out.trans F13)
  clear F13 HO HN1 HZa HWa HDa HFa
  have HO := Lib.hid (at_any HD13.out)
  go_wp2_with fail
  refine HO.out.mono ?_
  rintro e w13' ⟨rfl, rfl⟩
  clear HO HD13
  have HO := Lib.hid (lawOf_any _ _ w13 HZ13.out (HBIG.out _ s4.out).1 (HBIG.out _ s4.out).2)
  go_wp2_with fail
  refine HO.out.mono ?_
  rintro e w14 ⟨⟨av, cv, rfl, hq⟩, F14⟩
  have HQ14 := Lib.hid hq.at
  clear hq HZ13
  have HW14 := Lib.hid (HW13.out.old F14)
  have HF14 := Lib.hid (HF13.out.trans F14)
  clear F14 HO HW13 HF13
  have HO := Lib.hid (like_self _ _ _ w14 HQ14.out HW14.out)
  go_wp2_with fail
  refine HO.out.mono ?_
  rintro e w15 ⟨rfl, F15⟩
  have HF15 := Lib.hid (HF14.out.trans F15)
  clear F15 HO HF14
  go_wp2_with fail
  go_ret
  exact ⟨rfl, HF15.out⟩
end Go.Proofs.YtgffhiopbnkjbaaGreatDoor
