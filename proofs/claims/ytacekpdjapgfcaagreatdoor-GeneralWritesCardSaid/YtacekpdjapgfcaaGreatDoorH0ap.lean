/-
  Merged by program: XNOidR XR04P XR15 XNOidQ.
-/
import Derived.Test.YtacekpdjapgfcaaGreatDoorH0ao
import Derived.Test.YtacekpdjapgfcaaGreatDoorH0af
import Derived.Test.YtacekpdjapgfcaaGreatDoorH0ad
import Derived.Test.YtacekpdjapgfcaaGreatDoorH0aj
import Derived.Test.YtacekpdjapgfcaaGreatDoorH0an
import Derived.Test.YtacekpdjapgfcaaGreatDoorH0al
import Derived.Test.YtacekpdjapgfcaaGreatDoorH0ai
import Derived.Test.YtacekpdjapgfcaaGreatDoorH0ac
import Derived.Test.YtacekpdjapgfcaaGreatDoorH0ab
namespace Go.Q
open Go Go.RowKit
theorem numberS_nz : ∀ {l : List UInt8} {i n : Nat} {x : Int}, numberS i n l = .error x → x ≠ 0
  | [], i, n, x, h => by simp only [numberS, Except.error.injEq] at h; omega
  | y :: t, i, n, x, h => by
    simp only [numberS] at h
    split at h
    · cases h; decide
    split at h
    · cases h; decide
    split at h
    · cases h
    · exact numberS_nz h
theorem oidStS_nz : ∀ {l : List UInt8} {o : List Int} {i n : Nat} {x : Int}, oidStS o i n l = .error x → x ≠ 0
  | [], o, i, n, x, h => by
    simp only [oidStS] at h
    split at h
    · cases h
    · cases h; decide
  | y :: t, o, i, n, x, h => by
    simp only [oidStS] at h
    split at h
    · cases h; decide
    split at h
    · cases h; decide
    split at h
    · split at h
      · cases h; decide
      · exact oidStS_nz h
    · exact oidStS_nz h
theorem oidParse_nz {l : List UInt8} {x : Int} (h : oidParseS l = .error x) : x ≠ 0 := by
  unfold oidParseS at h
  split at h
  · cases h; decide
  · exact oidStS_nz h
theorem oidRead_nz {l : List UInt8} {x : Int} (h : oidReadS l = .error x) : x ≠ 0 := by
  unfold oidReadS at h
  split at h
  · rename_i hx
    cases h
    exact openS_nz hx
  · split at h
    · rename_i hx
      cases h
      exact oidParse_nz hx
    · cases h
end Go.Q
namespace Go.Proofs.YtacekpdjapgfcaaGreatDoor
open Go Go.RowKit Go.Q
set_option linter.unusedSimpArgs false
def nextOut (w' : World) (c : Nat) (K : Nat → Prop) (bs : List UInt8) (p : Nat) (r : Except Int (Nat × Nat)) (e : Ending) : Prop :=
  match r with
  | .ok (m, k) => e = .returned (.tuple #[.int .i64 m, .int .i64 0]) ∧ CurAt w' c K bs (p + k)
  | .error x => e = .returned (.tuple #[.int .i64 0, .int .i64 x]) ∧ ∃ q, p ≤ q ∧ CurAt w' c K bs q
set_option maxRecDepth 20000 in
set_option maxHeartbeats 2000000 in
theorem oidNext_any {w : World} {c : Nat} {K : Nat → Prop} {bs : List UInt8} {p : Nat} (h : CurAt w c K bs p) :
    Calls Tryz.prog 181 #[pt c] w fun e w' => nextOut w' c K bs p (numberS 0 0 (bs.drop p)) e ∧ Fr (fun k => k = c) w w' := by
  have H := Lib.hid h
  have hple := h.le
  clear h
  go_enter Tryz.func181, Tryz.ntmps181
  go_wp2_with fail
  go_loopg [4, 5] (bs.length - p) (fun g n i wr => ∃ (k m : Nat), g = bs.length - p - k ∧ m ≤ 2147483647 ∧ n = .int .i64 m ∧ i = .int .i64 k ∧ CurAt wr c K bs (p + k) ∧ Fr (fun k => k = c) w wr ∧ numberS 0 0 (bs.drop p) = numberS k m (bs.drop (p + k)))
  case atStart => exact ⟨0, 0, rfl, by omega, rfl, rfl, H.out, Fr.refl _, rfl⟩
  case round =>
    obtain ⟨k, m, hg, hm, rfl, rfl, hC, hF, hN⟩ := hrel
    have HG := Lib.hid hg
    have HC := Lib.hid hC
    have HN := Lib.hid hN
    have hcle := hC.le
    have hcsm := hC.small
    clear hg hC hN
    cases hd : bs.drop (p + k) with
    | nil =>
      have HD := Lib.hid hd
      clear hd
      go_wp2_with fail
      refine (byte_end HC.out HD.out).mono ?_
      rintro e w1 ⟨rfl, F1⟩
      go_wp2_with fail
      have hN := HN.out
      rw [HD.out] at hN
      simp only [numberS] at hN
      refine bodyPost_ret (v := .tuple #[.int .i64 0, .int .i64 6]) (by simp [results, Tryz.results181, go_sem]) rfl ⟨?_, hF.trans (F1.mono (fun _ _ h => h.elim))⟩
      rw [hN]
      exact ⟨rfl, _, Nat.le_add_right _ _, HC.out.old F1⟩
    | cons x t =>
      have HD := Lib.hid hd
      have hdl : (bs.drop (p + k)).length = t.length + 1 := by rw [hd]; rfl
      rw [List.length_drop] at hdl
      have hd2 : bs.drop (p + (k + 1)) = t := by
        rw [← Nat.add_assoc, ← List.drop_drop, hd]; rfl
      have HD2 := Lib.hid hd2
      clear hd hd2 hdl
      go_wp2_with fail
      refine (byte_on HC.out HD.out).mono ?_
      rintro e w1 ⟨rfl, C1, F1⟩
      have hx : x.toNat < 256 := x.toNat_lt
      have hN := HN.out
      rw [HD.out] at hN
      simp only [numberS] at hN
      have HC1 := Lib.hid C1
      have HF1 := Lib.hid (hF.trans F1)
      clear C1 hF F1 HC
      by_cases h3 : k = 0 ∧ x.toNat = 128
      · rw [if_pos h3] at hN
        have HN2 := Lib.hid hN
        obtain ⟨rfl, h128⟩ := h3
        have h128' : (x.toNat : Int) = 128 := by omega
        clear hN HN
        go_wp2_with fail
        refine bodyPost_ret (v := .tuple #[.int .i64 0, .int .i64 6]) (by simp [results, Tryz.results181, go_sem]) rfl ⟨?_, HF1.out⟩
        rw [HN2.out]
        exact ⟨rfl, _, by omega, HC1.out⟩
      · rw [if_neg h3] at hN
        obtain ⟨r, hr⟩ : ∃ r, r = x.toNat % 128 := ⟨_, rfl⟩
        have hr2 : r < 128 := by omega
        have hb1 : bits .and .u8 (x.toNat : Int) 127 = (r : Int) := by rw [hr]; exact and127 x
        obtain ⟨v, hv⟩ : ∃ v, v = m * 128 + r := ⟨_, rfl⟩
        have hb2 : bits .or .i64 ((m : Int) * 128) (r : Int) = (v : Int) := by rw [hv]; exact or7 m r (by omega) hr2
        have hw1 : wrap64 ((m : Int) * 128) = (m : Int) * 128 := by unfold wrap64; omega
        have hw2 : wrap64 (r : Int) = (r : Int) := wrap_nat r (by omega)
        rw [← hr, ← hv] at hN
        have HN2 := Lib.hid hN
        have HW := Lib.hid (And.intro hb1 (And.intro hb2 (And.intro hw1 hw2)))
        clear hb1 hb2 hw1 hw2 hN HN
        have hxv : x.toNat < 128 → m * 128 + x.toNat = v := fun h => by omega
        have HXV := Lib.hid hxv
        clear hr hv hxv
        rcases Classical.em (k = 0) with h0 | h0
        case' inl =>
          have h128' : ¬ (x.toNat : Int) = 128 := by omega
          have hk0 : ((k : Int) == 0) = true := by simpa using h0
        case' inr =>
          have hk0 : ((k : Int) == 0) = false := by simpa using h0
        all_goals
          by_cases hvm : 2147483647 < v
          · have hv31 : (2147483647 : Int) < (v : Int) := by omega
            have hE := HN2.out
            rw [if_pos hvm] at hE
            have HE := Lib.hid hE
            clear hE HN2 hvm hm
            go_upto_region 8 with fail
            simp only [HW.out.1, HW.out.2.2.1, HW.out.2.2.2, HW.out.2.1]
            go_wp2_with fail
            refine bodyPost_ret (v := .tuple #[.int .i64 0, .int .i64 2]) (by simp [results, Tryz.results181, go_sem]) rfl ⟨?_, HF1.out⟩
            rw [HE.out]
            exact ⟨rfl, _, by omega, HC1.out⟩
          · have hv31 : ¬ (2147483647 : Int) < (v : Int) := by omega
            have hE := HN2.out
            rw [if_neg hvm] at hE
            by_cases hx7 : x.toNat < 128
            · have hx8 : (x.toNat : Int) < 128 := by omega
              rw [if_pos hx7, HXV.out hx7] at hE
              have HE := Lib.hid hE
              clear hE HN2 hvm hm
              go_upto_region 8 with fail
              simp only [HW.out.1, HW.out.2.2.1, HW.out.2.2.2, HW.out.2.1]
              go_wp2_with fail
              refine bodyPost_ret (v := .tuple #[.int .i64 v, .int .i64 0]) (by simp [results, Tryz.results181, go_sem]) rfl ⟨?_, HF1.out⟩
              rw [HE.out]
              exact ⟨rfl, HC1.out⟩
            · have hx8 : ¬ (x.toNat : Int) < 128 := by omega
              rw [if_neg hx7] at hE
              have HE := Lib.hid hE
              clear hE HN2 hvm hm
              go_upto_region 8 with fail
              simp only [HW.out.1, HW.out.2.2.1, HW.out.2.2.2, HW.out.2.1]
              go_wp2_with fail
              go_roundg (bs.length - p - (k + 1))
              case measure => rw [HG.out]; have := HC1.out.le; omega
              case rel => exact ⟨k + 1, v, rfl, by omega, rfl, by go_num, HC1.out, HF1.out, by rw [HE.out, HD2.out]⟩
set_option maxRecDepth 20000 in
theorem oidSplit_any (m : Nat) (hm : m ≤ 2147483647) (w : World) :
    Calls Tryz.prog 182 #[.int .i64 m] w fun e w' => ∃ a c, e = .returned (.slice a 2 c) ∧ w'.ownsRow w.heap.size 3 1 (.slice a 2 c) 2 (intCells (addS [] m)) ∧ Fr (fun _ => False) w w' := by
  have HA := Lib.hid (show addS [] m = if m < 80 then [((m / 40 : Nat) : Int), ((m % 40 : Nat) : Int)] else [2, (m : Int) - 80] from rfl)
  have hq : (m : Int) / 40 = ((m / 40 : Nat) : Int) := by omega
  have hr : (m : Int) % 40 = ((m % 40 : Nat) : Int) := by omega
  generalize m / 40 = mq at *
  generalize m % 40 = mr at *
  by_cases h8 : m < 80
  · have q1 : (m : Int) < 80 := by omega
    have hA := HA.out
    rw [if_pos h8] at hA
    have HA2 := Lib.hid hA
    clear hA HA
    go_enter Tryz.func182, Tryz.ntmps182
    go_wp2_with fail
    go_ret
    rw [HA2.out]
    exact ⟨_, 2, rfl, own_block (Blk.new w 3 #[.int .i64 mq, .int .i64 mr]) 2 (Nat.le_refl _) (by unfold maxLen; simp) _ (Nat.le_refl _), (Fr.refl w).alloc _⟩
  · have q1 : ¬ (m : Int) < 80 := by omega
    have hA := HA.out
    rw [if_neg h8] at hA
    have HA2 := Lib.hid hA
    clear hA HA hq hr
    go_enter Tryz.func182, Tryz.ntmps182
    go_wp2_with fail
    go_ret
    rw [HA2.out]
    exact ⟨_, 2, rfl, own_block (Blk.new w 3 #[.int .i64 2, .int .i64 ((m : Int) - 80)]) 2 (Nat.le_refl _) (by unfold maxLen; simp) _ (Nat.le_refl _), (Fr.refl w).alloc _⟩
def oidParseOut (w w' : World) (r : Except Int (List Int)) (e : Ending) : Prop :=
  match r with
  | .ok o => ∃ a c, e = .returned (.tuple #[.slice a o.length c, .int .i64 0]) ∧ w'.ownsRow w.heap.size 3 1 (.slice a o.length c) o.length (intCells o)
  | .error x => e = .returned (.tuple #[.slice none 0 0, .int .i64 x])
theorem addS_snoc {o : List Int} (h : o ≠ []) (m : Nat) : addS o m = o ++ [(m : Int)] := if_neg h
set_option maxRecDepth 20000 in
set_option maxHeartbeats 2000000 in
theorem oidParse_any (v : Value) (l : List UInt8) (w : World) (h : Bytes w v l) (hl : l.length ≤ 1099511627776) :
    Calls Tryz.prog 140 #[v] w fun e w' => oidParseOut w w' (oidParseS l) e ∧ Fr (fun _ => False) w w' := by
  have hN := Lib.hid (new_any w v l h hl)
  have HP := Lib.hid (show oidParseS l = if l = [] then .error 6 else oidStS [] 0 0 l from rfl)
  clear h
  go_enter Tryz.func140, Tryz.ntmps140
  go_wp2_with fail
  refine hN.out.mono ?_
  rintro e w1 ⟨rfl, C1, F1⟩
  obtain ⟨c, hc⟩ : ∃ c, c = w.heap.size := ⟨_, rfl⟩
  have HX := Lib.hid (oidNext_any C1)
  have HF1 := Lib.hid F1
  rw [← hc] at HX C1 ⊢
  have hs1 := F1.size
  have hc1 := C1.lt
  have HC := Lib.hid hc
  clear C1 F1 hN hc
  go_wp2_with fail
  refine HX.out.mono ?_
  rintro e w2 ⟨hout, F2⟩
  rw [List.drop_zero] at hout
  have HF2 := Lib.hid (HF1.out.trans' F2 (fun i hi e => absurd hi (by rw [e, HC.out]; exact Nat.lt_irrefl _)))
  have hs2 := F2.size
  clear F2 HX HF1
  unfold nextOut at hout
  cases hn : numberS 0 0 l with
  | error x =>
    rw [hn] at hout
    obtain ⟨rfl, -⟩ := hout
    have hx := numberS_nz hn
    have hx1 : (x == 0) = false := beq_eq_false_iff_ne.2 hx
    have hx2 : (x != 0) = true := by simpa using hx
    have hr : oidParseS l = .error x := by
      rw [HP.out]
      cases l with
      | nil => rw [if_pos rfl]; simp only [numberS] at hn; cases hn; rfl
      | cons y t => rw [if_neg (by simp), oidSt_num [] _ 0 0 (.inr (by simp)), hn]
    have HR := Lib.hid hr
    clear hn hr hx HP
    go_wp2_with fail
    refine bodyPost_ret (v := .tuple #[.slice none 0 0, .int .i64 x]) (by simp [results, Tryz.results140, go_sem]) rfl ⟨?_, HF2.out⟩
    rw [HR.out]
    exact rfl
  | ok mk =>
    obtain ⟨m, k⟩ := mk
    rw [hn] at hout
    obtain ⟨rfl, C2⟩ := hout
    obtain ⟨j, hj, -, hm, hj1, hjl⟩ := numberS_back _ 0 0 m k (fun _ => rfl) (fun h => absurd rfl h) hn
    have hl0 : l ≠ [] := by rintro rfl; simp at hjl; omega
    have hst : oidParseS l = oidStS (addS [] m) 0 0 (l.drop k) := by
      rw [HP.out, if_neg hl0, oidSt_num [] _ 0 0 (.inr hl0), hn]
      simp only [List.length_nil]
      rw [if_neg (by omega), Nat.sub_zero]
    have hal : (addS [] m).length = 2 := by unfold addS; rw [if_pos rfl]; split <;> rfl
    obtain ⟨o2, ho2⟩ : ∃ o, o = addS [] m := ⟨_, rfl⟩
    have HS2 := Lib.hid (oidSplit_any m hm w2)
    rw [← ho2] at hst hal HS2
    rw [Nat.zero_add] at C2
    have hc2 := C2.lt
    have HST := Lib.hid hst
    have HAL := Lib.hid hal
    have HC2 := Lib.hid C2
    have hle2 := C2.le
    clear C2 hst hal ho2 hn hj hjl hl0 HP
    go_wp2_with fail
    refine HS2.out.mono ?_
    rintro e w3 ⟨a2, c2, rfl, hown, F3⟩
    have HO3 := Lib.hid hown
    have HC3 := Lib.hid ((HC2.out.step (K' := fun k => k < w.heap.size ∨ w2.heap.size ≤ k) (Fr.refl w2) (S := fun _ => False) (fun _ _ h => h.elim) (fun k hk => by have := HC.out; omega)).old F3)
    have HF3 := Lib.hid (HF2.out.trans F3)
    have hs3 := F3.size
    clear hown F3 HF2 HC2 HS2
    go_wp2_with fail
    go_loopg [7] (l.length - k) (fun g u wr => ∃ (o : List Int) (q : Nat) (a : Option Addr) (cc : Nat), g = l.length - q ∧ q ≤ l.length ∧ o.length ≤ 32 ∧ 2 ≤ o.length ∧ u = .slice a o.length cc ∧ wr.ownsRow w2.heap.size 3 1 (.slice a o.length cc) o.length (intCells o) ∧ CurAt wr c (fun k => k < w.heap.size ∨ w2.heap.size ≤ k) l q ∧ Fr (fun _ => False) w wr ∧ w2.heap.size ≤ wr.heap.size ∧ oidParseS l = oidStS o 0 0 (l.drop q))
    case atStart => exact ⟨o2, k, a2, c2, rfl, hle2, by rw [HAL.out]; omega, by rw [HAL.out]; exact Nat.le_refl _, by rw [HAL.out], by rw [HAL.out]; exact HO3.out, HC3.out, HF3.out, hs3, HST.out⟩
    case round =>
      obtain ⟨o, q, a, cc, hg, hq, ho32, ho2, rfl, hown, hC, hF, hsz, hR⟩ := hrel
      have HG := Lib.hid hg
      have HOW := Lib.hid hown
      have HCC := Lib.hid hC
      have HF := Lib.hid hF
      have HR := Lib.hid hR
      have HL := Lib.hid (left_any hC)
      clear hg hown hC hF hR
      by_cases hql : q < l.length
      · have q1 : (0 : Int) < ((l.length - q : Nat) : Int) := by omega
        obtain ⟨lq, hlq⟩ : ∃ lq, lq = l.length - q := ⟨_, rfl⟩
        rw [← hlq] at q1 HL HG
        have HLQ := Lib.hid hlq
        clear hlq
        go_wp2_with fail
        refine HL.out.mono ?_
        rintro e w4 ⟨rfl, F4⟩
        have HC4 := Lib.hid (HCC.out.old F4)
        have HX := Lib.hid (oidNext_any HC4.out)
        have HF4 := Lib.hid (HF.out.trans F4)
        have HO4 := Lib.hid (ownsRow_fr HOW.out F4 (fun _ _ h => h))
        have hs4 := F4.size
        clear F4 HCC HF HOW HL
        go_wp2_with fail
        refine HX.out.mono ?_
        rintro e w5 ⟨hout, F5⟩
        have HF5 := Lib.hid (HF4.out.trans' F5 (fun i hi e => absurd hi (by rw [e, HC.out]; exact Nat.lt_irrefl _)))
        have HO5 := Lib.hid (ownsRow_fr HO4.out F5 (fun k hk e => by have := ((Vals.of_own HO4.out).2 k hk).1; omega))
        have hs5 := F5.size
        unfold nextOut at hout
        have hd0 : l.drop q ≠ [] := by
          intro e
          have := congrArg List.length e
          rw [List.length_drop, List.length_nil] at this
          omega
        have hst := oidSt_num o (l.drop q) 0 0 (.inr hd0)
        clear F5 HF4 HO4 HX hd0
        cases hn : numberS 0 0 (l.drop q) with
        | error x =>
          rw [hn] at hout hst
          obtain ⟨rfl, -⟩ := hout
          have hx := numberS_nz hn
          have hx1 : (x == 0) = false := beq_eq_false_iff_ne.2 hx
          have hx2 : (x != 0) = true := by simpa using hx
          have HR2 := Lib.hid (HR.out.trans hst)
          clear hn hx hst
          go_wp2_with fail
          refine bodyPost_ret (v := .tuple #[.slice none 0 0, .int .i64 x]) (by simp [results, Tryz.results140, go_sem]) rfl ⟨?_, HF5.out⟩
          rw [HR2.out]
          exact rfl
        | ok mk =>
          obtain ⟨m2, k2⟩ := mk
          rw [hn] at hout hst
          obtain ⟨rfl, C5⟩ := hout
          obtain ⟨j2, hj2, -, hm2, hj3, hjl2⟩ := numberS_back _ 0 0 m2 k2 (fun _ => rfl) (fun h => absurd rfl h) hn
          have HR2 := Lib.hid (HR.out.trans hst)
          rw [Nat.zero_add] at hj2
          subst hj2
          have hk2 := C5.le
          have HC5 := Lib.hid C5
          have hql2 : l.length - (q + k2) < l.length - q := by omega
          have HQ := Lib.hid hql2
          clear hn hst C5 HC4 hm2 hjl2 hql2
          by_cases h32 : o.length = 32
          · have q3 : ((o.length : Int) == 32) = true := by rw [h32]; rfl
            have q4 : (o.length == 32) = true := by rw [h32]; rfl
            have hr := HR2.out
            simp only [h32, ↓reduceIte] at hr
            have HR3 := Lib.hid hr
            clear hr HR2 h32
            go_wp2_with fail
            refine bodyPost_ret (v := .tuple #[.slice none 0 0, .int .i64 2]) (by simp [results, Tryz.results140, go_sem]) rfl ⟨?_, HF5.out⟩
            rw [HR3.out]
            exact rfl
          · have q3 : ((o.length : Int) == 32) = false := beq_eq_false_iff_ne.2 (by omega)
            have q4 : (o.length == 32) = false := beq_eq_false_iff_ne.2 (by omega)
            have hr := HR2.out
            have hlt : o.length + 1 ≤ 32 := by omega
            simp only [h32, ↓reduceIte, Nat.sub_zero] at hr
            rw [addS_snoc (by rintro rfl; simp at ho2), List.drop_drop] at hr
            have HR3 := Lib.hid hr
            obtain ⟨a7, c7, w7, hrun, ho7, F7, hw7⟩ := add_int HO5.out (Nat.le_trans hsz (Nat.le_trans hs4 hs5)) (by omega) (m2 : Int) w5.heap.size ((Fr.refl w5).alloc (.cells #[.int .i64 m2] 3)) (Blk.new w5 3 #[.int .i64 m2])
            have hkp := (Vals.of_own HO5.out).2
            have HC7 := Lib.hid (HC5.out.step (K' := fun k => k < w.heap.size ∨ w2.heap.size ≤ k) F7 (fun k hk e => .inr (hkp k e).1) (fun k hk => .inl hk))
            have HF7 := Lib.hid (HF5.out.trans' F7 (fun i hi e => absurd hi (by have := (hkp i e).1; omega)))
            have hs7 := F7.size
            have HRUN := Lib.hid hrun
            have HO7 := Lib.hid ho7
            clear hr HR2 h32 hrun ho7 F7 hw7 hkp HC5
            go_wp2_with (at_builtin; refine wpList_append_run (by rfl) (.tmp 36) (.tmp 38) 105 (by rfl) _ w7 (by exact HRUN.out) ?_)
            go_roundg (l.length - (q + k2))
            case measure => rw [HG.out, HLQ.out]; exact HQ.out
            case rel => exact ⟨o ++ [(m2 : Int)], q + k2, a7, c7, rfl, hk2, by rw [List.length_append]; exact hlt, by rw [List.length_append]; omega, by rw [List.length_append]; rfl, by rw [List.length_append]; exact HO7.out, HC7.out, HF7.out, by omega, HR3.out⟩
      · obtain rfl : q = l.length := by omega
        have q1 : ¬ (0 : Int) < ((l.length - l.length : Nat) : Int) := by omega
        have hr := HR.out
        rw [List.drop_length] at hr
        simp only [oidStS, ↓reduceIte] at hr
        have HR2 := Lib.hid hr
        rw [Nat.sub_self] at HL
        clear hr HR q1
        go_wp2_with fail
        refine HL.out.mono ?_
        rintro e w4 ⟨rfl, F4⟩
        have HF4 := Lib.hid (HF.out.trans F4)
        have HO4 := Lib.hid (own_le (ownsRow_fr HOW.out F4 (fun _ _ h => h)) (Nat.le_trans hs1 hs2))
        clear F4 HF HOW HL
        go_wp2_with fail
        refine bodyPost_ret (v := .tuple #[.slice a o.length cc, .int .i64 0]) (by simp [results, Tryz.results140, go_sem]) rfl ⟨?_, HF4.out⟩
        rw [HR2.out]
        exact ⟨a, cc, rfl, HO4.out⟩
end Go.Proofs.YtacekpdjapgfcaaGreatDoor

namespace Go.Q
open Go Go.RowKit
theorem oidSt_one : ∀ (l : List UInt8) (o : List Int) (i n : Nat), oidStS o (i + 1) n l = oidStS o 1 n l
  | [], o, i, n => by simp [oidStS]
  | x :: t, o, i, n => by
    have h1 := oidSt_one t o (i + 1) (n * 128 + x.toNat % 128)
    have h2 := oidSt_one t o 1 (n * 128 + x.toNat % 128)
    simp only [oidStS, h1, h2, Nat.succ_ne_zero, false_and, ite_false]
theorem oidSt_next {l : List UInt8} {o : List Int} {st n i : Nat} {x : UInt8} (h : l[i]? = some x) : oidStS o st n (l.drop i) = if st = 0 ∧ x.toNat = 128 then .error 6 else if 2147483647 < n * 128 + x.toNat % 128 then .error 2 else if x.toNat < 128 then (if o.length = 32 then .error 2 else oidStS (addS o (n * 128 + x.toNat % 128)) 0 0 (l.drop (i + 1))) else oidStS o 1 (n * 128 + x.toNat % 128) (l.drop (i + 1)) := by
  obtain ⟨hi, rfl⟩ := List.getElem?_eq_some_iff.1 h
  rw [List.drop_eq_getElem_cons hi]
  simp only [oidStS]
  by_cases h1 : l[i].toNat < 128
  · simp only [if_pos h1, show l[i].toNat % 128 = l[i].toNat from by omega]
  · simp only [if_neg h1, oidSt_one]
end Go.Q
namespace Go.Proofs.YtacekpdjapgfcaaGreatDoor
open Go Go.RowKit Go.Q
set_option linter.unusedSimpArgs false
set_option maxRecDepth 20000 in
set_option maxHeartbeats 4000000 in
theorem r04Parse_any (v : Value) (l : List UInt8) (w : World) (h : Bytes w v l) (hl : l.length ≤ 1099511627776) :
    Calls Tryz.prog 85 #[v] w fun e w' => oidParseOut w w' (oidParseS l) e ∧ Fr (fun _ => False) w w' := by
  obtain ⟨a0, cap, rfl, hcap, hcm, hx⟩ := Vals.form h
  have HX := Lib.hid hx
  have HP := Lib.hid (show oidParseS l = if l = [] then .error 6 else oidStS [] 0 0 l from rfl)
  clear h hx hcm
  by_cases hl0 : l.length = 0
  · have q1 : ((l.length : Int) == 0) = true := by rw [hl0]; rfl
    have q2 : (l.length == 0) = true := by rw [hl0]; rfl
    have hp := HP.out
    rw [if_pos (List.length_eq_zero_iff.1 hl0)] at hp
    have HP2 := Lib.hid hp
    clear hp HP hl0
    go_enter Tryz.func85, Tryz.ntmps85
    go_wp2_with fail
    refine bodyPost_ret (v := .tuple #[.slice none 0 0, .int .i64 6]) (by simp [results, Tryz.results85, go_sem]) rfl ⟨?_, Fr.refl _⟩
    rw [HP2.out]
    rfl
  · have q1 : ((l.length : Int) == 0) = false := beq_eq_false_iff_ne.2 (by omega)
    have q2 : (l.length == 0) = false := beq_eq_false_iff_ne.2 hl0
    have hp := HP.out
    rw [if_neg (by rintro rfl; exact hl0 rfl)] at hp
    have HP2 := Lib.hid hp
    clear hp HP hl0
    go_enter Tryz.func85, Tryz.ntmps85
    go_wp2_with fail
    go_loopg [4, 5, 6, 7] l.length (fun gk u4 u5 u6 u7 wr => ∃ (o : List Int) (fr : Bool) (m i : Nat) (a : Option Addr) (c : Nat), gk = l.length - i ∧ i ≤ l.length ∧ u4 = .slice a o.length c ∧ u5 = .int .i64 m ∧ u6 = .bool fr ∧ u7 = .int .i64 i ∧ (fr = false → i < l.length) ∧ m ≤ 2147483647 ∧ o.length ≤ 32 ∧ wr.ownsRow w.heap.size 3 1 (.slice a o.length c) o.length (intCells o) ∧ Fr (fun _ => False) w wr ∧ oidParseS l = oidStS o (if fr then 0 else 1) m (l.drop i))
    case atStart => exact ⟨[], true, 0, 0, none, 0, rfl, Nat.zero_le _, rfl, rfl, rfl, rfl, by simp, by omega, by simp, ⟨rfl, .inl ⟨rfl, rfl⟩⟩, Fr.refl _, by rw [HP2.out]; rfl⟩
    case round =>
      obtain ⟨o, fr, m, i, a, c, hgk, hi, rfl, rfl, rfl, rfl, hfr, hm, ho32, hown, hF, hR⟩ := hrel
      have HG := Lib.hid hgk
      have HOW := Lib.hid hown
      have HF := Lib.hid hF
      have HR := Lib.hid hR
      have HFR := Lib.hid hfr
      clear hgk hown hF hR hfr HP2
      by_cases hil : i < l.length
      · have q3 : (i : Int) < (l.length : Int) := by omega
        obtain ⟨x, hx⟩ : ∃ x, l[i]? = some x := ⟨_, List.getElem?_eq_getElem hil⟩
        obtain ⟨b, off, rfl, hy⟩ := HX.out (by omega)
        have e1 := HF.out.cell (hy i x hx) (fun h => h)
        have HE1 := Lib.hid e1
        have hr := HR.out.trans (oidSt_next hx)
        have hx8 : x.toNat < 256 := x.toNat_lt
        obtain ⟨r, hr2⟩ : ∃ r, r = x.toNat % 128 := ⟨_, rfl⟩
        obtain ⟨vv, hv⟩ : ∃ vv, vv = m * 128 + r := ⟨_, rfl⟩
        rw [← hr2, ← hv] at hr
        have HRR := Lib.hid hr
        have s0 : (0 : Int) ≤ (i : Int) := by omega
        have hrl : r < 128 := by omega
        have HV := Lib.hid (And.intro hr2 hv)
        clear hx hy hr hr2 hv HR
        clear HX
        by_cases h6 : fr = true ∧ x.toNat = 128
        · obtain ⟨rfl, h128⟩ := h6
          have h128' : (x.toNat : Int) = 128 := by omega
          have hr := HRR.out
          rw [if_pos ⟨rfl, h128⟩] at hr
          have HR2 := Lib.hid hr
          clear hr HRR h128
          go_wp2_with fail
          refine bodyPost_ret (v := .tuple #[.slice none 0 0, .int .i64 6]) (by simp [results, Tryz.results85, go_sem]) rfl ⟨?_, HF.out⟩
          rw [HR2.out]
          rfl
        · have hr := HRR.out
          rw [if_neg (fun h => h6 ⟨by cases fr; (simp at h); rfl, h.2⟩)] at hr
          have HR2 := Lib.hid hr
          have h128' : fr = true → ¬ (x.toNat : Int) = 128 := fun h e => h6 ⟨h, by omega⟩
          clear hr HRR h6
          have HSUM := Lib.hid (show 128 * (m : Int) + (x.toNat : Int) % 128 = (vv : Int) from by have := HV.out; omega)
          cases fr
          case' false =>
            clear h128'
            go_upto_region 13 with fail
          case' true =>
            replace h128' := h128' rfl
            go_upto_region 13 with fail
          all_goals
            simp only [HSUM.out]
            clear HSUM e1 hm
            by_cases hvm : 2147483647 < vv
            · have q5 : (2147483647 : Int) < (vv : Int) := by omega
              have hr := HR2.out
              rw [if_pos hvm] at hr
              have HR3 := Lib.hid hr
              clear hr HR2 hvm
              go_wp2_with fail
              refine bodyPost_ret (v := .tuple #[.slice none 0 0, .int .i64 2]) (by simp [results, Tryz.results85, go_sem]) rfl ⟨?_, HF.out⟩
              rw [HR3.out]
              rfl
            · have q5 : ¬ (2147483647 : Int) < (vv : Int) := by omega
              have hr := HR2.out
              rw [if_neg hvm] at hr
              have e1 := HE1.out
              by_cases hx7 : x.toNat < 128
              · have q6 : ¬ (128 : Int) ≤ (x.toNat : Int) := by omega
                rw [if_pos hx7] at hr
                by_cases h32 : o.length = 32
                · have q7 : ((o.length : Int) == 32) = true := by rw [h32]; rfl
                  have q8 : (o.length == 32) = true := by rw [h32]; rfl
                  rw [if_pos h32] at hr
                  have HR3 := Lib.hid hr
                  clear hr HR2 h32 hvm
                  go_wp2_with fail
                  refine bodyPost_ret (v := .tuple #[.slice none 0 0, .int .i64 2]) (by simp [results, Tryz.results85, go_sem]) rfl ⟨?_, HF.out⟩
                  rw [HR3.out]
                  rfl
                · have q7 : ((o.length : Int) == 32) = false := beq_eq_false_iff_ne.2 (by omega)
                  have q8 : (o.length == 32) = false := beq_eq_false_iff_ne.2 h32
                  rw [if_neg h32] at hr
                  have HR3 := Lib.hid hr
                  have ho31 : o.length + 1 ≤ 32 := by omega
                  clear hr HR2 h32
                  by_cases h0 : o.length = 0
                  · obtain rfl : o = [] := List.length_eq_zero_iff.1 h0
                    have hvm2 : vv ≤ 2147483647 := by omega
                    by_cases h40 : vv < 40
                    · have q9 : (vv : Int) < 40 := by omega
                      have HAD := Lib.hid (show addS [] vv = [0, (vv : Int)] from by
                        unfold addS
                        rw [if_pos rfl, if_pos (by omega), show vv / 40 = 0 from by omega, show vv % 40 = vv from by omega]
                        rfl)
                      clear h0 hvm hvm2 h40 ho31
                      obtain ⟨v7, w7, hrun, ho7, F7, -⟩ := append_ints (ownsRow_fr HOW.out ((Fr.refl wr).alloc (.cells #[.int .i64 0, .int .i64 (vv : Int)] 3)) (fun _ _ h => h)) (some ⟨wr.heap.size, 0, none⟩) 2 2 [0, (vv : Int)] (Vals.of_block (Blk.new wr 3 #[.int .i64 0, .int .i64 (vv : Int)]) (by unfold maxLen; simp)) (by simp) (Nat.le_trans HF.out.size ((Fr.refl wr).alloc (S := fun _ => False) _).size)
                      obtain ⟨a7, n7, c7, rfl, rfl⟩ := own_shape ho7
                      have hkp := (Vals.of_own HOW.out).2
                      have HF7 := Lib.hid ((HF.out.alloc _).trans' F7 (fun k hk e => by have := (hkp k e).1; omega))
                      have HRUN := Lib.hid hrun
                      have HO7 := Lib.hid ho7
                      clear hrun ho7 F7 hkp
                      go_wp2_with (at_builtin; refine wpList_append_run (by rfl) (.tmp 65) (.tmp 67) 105 (by rfl) _ w7 (by exact HRUN.out) ?_)
                      go_roundg (l.length - (i + 1))
                      case measure => rw [HG.out]; omega
                      case rel => exact ⟨[0, (vv : Int)], true, 0, i + 1, a7, c7, rfl, by omega, rfl, rfl, rfl, by go_num, by simp, by omega, by simp, HO7.out, HF7.out, by rw [HR3.out, HAD.out]; rfl⟩
                    · have q9 : ¬ (vv : Int) < 40 := by omega
                      by_cases h80 : vv < 80
                      · have q10 : (vv : Int) < 80 := by omega
                        have HAD := Lib.hid (show addS [] vv = [1, (vv : Int) - 40] from by
                          unfold addS
                          rw [if_pos rfl, if_pos h80, show vv / 40 = 1 from by omega, show ((vv % 40 : Nat) : Int) = (vv : Int) - 40 from by omega]
                          rfl)
                        clear h0 hvm hvm2 h40 h80 ho31
                        obtain ⟨v7, w7, hrun, ho7, F7, -⟩ := append_ints (ownsRow_fr HOW.out ((Fr.refl wr).alloc (.cells #[.int .i64 1, .int .i64 ((vv : Int) - 40)] 3)) (fun _ _ h => h)) (some ⟨wr.heap.size, 0, none⟩) 2 2 [1, ((vv : Int) - 40)] (Vals.of_block (Blk.new wr 3 #[.int .i64 1, .int .i64 ((vv : Int) - 40)]) (by unfold maxLen; simp)) (by simp) (Nat.le_trans HF.out.size ((Fr.refl wr).alloc (S := fun _ => False) _).size)
                        obtain ⟨a7, n7, c7, rfl, rfl⟩ := own_shape ho7
                        have hkp := (Vals.of_own HOW.out).2
                        have HF7 := Lib.hid ((HF.out.alloc _).trans' F7 (fun k hk e => by have := (hkp k e).1; omega))
                        have HRUN := Lib.hid hrun
                        have HO7 := Lib.hid ho7
                        clear hrun ho7 F7 hkp
                        go_wp2_with (at_builtin; refine wpList_append_run (by rfl) (.tmp 72) (.tmp 75) 105 (by rfl) _ w7 (by exact HRUN.out) ?_)
                        go_roundg (l.length - (i + 1))
                        case measure => rw [HG.out]; omega
                        case rel => exact ⟨[1, ((vv : Int) - 40)], true, 0, i + 1, a7, c7, rfl, by omega, rfl, rfl, rfl, by go_num, by simp, by omega, by simp, HO7.out, HF7.out, by rw [HR3.out, HAD.out]; rfl⟩
                      · have q10 : ¬ (vv : Int) < 80 := by omega
                        have HAD := Lib.hid (show addS [] vv = [2, (vv : Int) - 80] from by
                          unfold addS
                          rw [if_pos rfl, if_neg h80])
                        clear h0 hvm hvm2 h40 h80 ho31
                        obtain ⟨v7, w7, hrun, ho7, F7, -⟩ := append_ints (ownsRow_fr HOW.out ((Fr.refl wr).alloc (.cells #[.int .i64 2, .int .i64 ((vv : Int) - 80)] 3)) (fun _ _ h => h)) (some ⟨wr.heap.size, 0, none⟩) 2 2 [2, ((vv : Int) - 80)] (Vals.of_block (Blk.new wr 3 #[.int .i64 2, .int .i64 ((vv : Int) - 80)]) (by unfold maxLen; simp)) (by simp) (Nat.le_trans HF.out.size ((Fr.refl wr).alloc (S := fun _ => False) _).size)
                        obtain ⟨a7, n7, c7, rfl, rfl⟩ := own_shape ho7
                        have hkp := (Vals.of_own HOW.out).2
                        have HF7 := Lib.hid ((HF.out.alloc _).trans' F7 (fun k hk e => by have := (hkp k e).1; omega))
                        have HRUN := Lib.hid hrun
                        have HO7 := Lib.hid ho7
                        clear hrun ho7 F7 hkp
                        go_wp2_with (at_builtin; refine wpList_append_run (by rfl) (.tmp 49) (.tmp 52) 105 (by rfl) _ w7 (by exact HRUN.out) ?_)
                        go_roundg (l.length - (i + 1))
                        case measure => rw [HG.out]; omega
                        case rel => exact ⟨[2, ((vv : Int) - 80)], true, 0, i + 1, a7, c7, rfl, by omega, rfl, rfl, rfl, by go_num, by simp, by omega, by simp, HO7.out, HF7.out, by rw [HR3.out, HAD.out]; rfl⟩
                  · have q9 : (0 : Int) < (o.length : Int) := by omega
                    have q10 : 0 < o.length := by omega
                    have HAD := Lib.hid (addS_snoc (o := o) (by rintro rfl; exact h0 rfl) vv)
                    obtain ⟨a7, c7, w7, hrun, ho7, F7, hw7⟩ := add_int HOW.out HF.out.size (by omega) (vv : Int) wr.heap.size ((Fr.refl wr).alloc (.cells #[.int .i64 vv] 3)) (Blk.new wr 3 #[.int .i64 vv])
                    have hkp := (Vals.of_own HOW.out).2
                    have HF7 := Lib.hid (HF.out.trans' F7 (fun k hk e => by have := (hkp k e).1; omega))
                    have HRUN := Lib.hid hrun
                    have HO7 := Lib.hid ho7
                    clear hrun ho7 F7 hkp h0 hvm hw7
                    go_wp2_with (at_builtin; refine wpList_append_run (by rfl) (.tmp 58) (.tmp 60) 105 (by rfl) _ w7 (by exact HRUN.out) ?_)
                    go_roundg (l.length - (i + 1))
                    case measure => rw [HG.out]; omega
                    case rel => exact ⟨o ++ [(vv : Int)], true, 0, i + 1, a7, c7, rfl, by omega, by rw [List.length_append]; rfl, rfl, rfl, by go_num, by simp, by omega, by rw [List.length_append]; exact ho31, by rw [List.length_append]; exact HO7.out, HF7.out, by rw [HR3.out, HAD.out]; rfl⟩
              · have q6 : (128 : Int) ≤ (x.toNat : Int) := by omega
                rw [if_neg hx7] at hr
                by_cases hlast : i + 1 = l.length
                · have q7 : ((i : Int) == (l.length : Int) - 1) = true := by simp; omega
                  rw [List.drop_eq_nil_of_le (by omega)] at hr
                  simp only [oidStS, Nat.one_ne_zero, ite_false] at hr
                  have HR3 := Lib.hid hr
                  clear hr HR2 hvm hlast
                  go_wp2_with fail
                  refine bodyPost_ret (v := .tuple #[.slice none 0 0, .int .i64 6]) (by simp [results, Tryz.results85, go_sem]) rfl ⟨?_, HF.out⟩
                  rw [HR3.out]
                  rfl
                · have q7 : ((i : Int) == (l.length : Int) - 1) = false := by simp; omega
                  have HR3 := Lib.hid hr
                  have HVM := Lib.hid hvm
                  clear hr HR2 hvm
                  go_wp2_with fail
                  go_roundg (l.length - (i + 1))
                  case measure => rw [HG.out]; omega
                  case rel => exact ⟨o, false, vv, i + 1, a, c, rfl, by omega, rfl, rfl, rfl, by go_num, fun _ => by omega, Nat.not_lt.1 HVM.out, ho32, HOW.out, HF.out, HR3.out⟩
      · have q3 : ¬ (i : Int) < (l.length : Int) := by omega
        obtain rfl : fr = true := by
          cases fr
          · exact absurd (HFR.out rfl) hil
          · rfl
        have hr := HR.out
        rw [List.drop_eq_nil_of_le (by omega)] at hr
        simp only [oidStS, ↓reduceIte] at hr
        have HR3 := Lib.hid hr
        clear hr HR
        go_wp2_with fail
        refine bodyPost_ret (v := .tuple #[.slice a o.length c, .int .i64 0]) (by simp [results, Tryz.results85, go_sem]) rfl ⟨?_, HF.out⟩
        rw [HR3.out]
        exact ⟨a, c, rfl, HOW.out⟩
end Go.Proofs.YtacekpdjapgfcaaGreatDoor

namespace Go.Proofs.YtacekpdjapgfcaaGreatDoor
open Go Go.RowKit Go.Q
set_option linter.unusedSimpArgs false
theorem r15made_any (k : Int) (w : World) :
    Calls Tryz.prog 74 #[.int .i64 k] w fun e w' => e = .returned (.bool (madeG k)) ∧ w = w' := by
  have hk : k = 0 ∨ k = 3 ∨ k = 4 ∨ k = 5 ∨ ((k == 0) = false ∧ (k == 3) = false ∧ (k == 4) = false ∧ (k == 5) = false) := by
    simp only [beq_eq_false_iff_ne]
    omega
  rcases hk with rfl | rfl | rfl | rfl | ⟨h0, h3, h4, h5⟩
  all_goals
    go_enter Tryz.func74, Tryz.ntmps74
    go_wp2_with fail
    go_ret
    first | exact ⟨rfl, rfl⟩ | exact ⟨by simp [madeG, h0, h3, h4, h5], rfl⟩
set_option maxRecDepth 20000 in
theorem r02At_any (k : Int) (m : Bool) (w : World) :
    Calls Tryz.prog 95 #[.int .i64 k, .bool m] w fun e w' => e = .returned (tagV (tagAt k m)) ∧ Fr (fun _ => False) w w' := by
  go_enter Tryz.func95, Tryz.ntmps95
  go_wp2_with fail
  exact bodyPost_ret (v := tagV (tagAt k m)) (by simp [results, Tryz.results95, go_sem, tagV, tagAt]) rfl ⟨rfl, (Fr.refl w).alloc _⟩
set_option maxRecDepth 20000 in
set_option maxHeartbeats 8000000 in
theorem r15Right_any (u : Value) (g : Gen) (w : World) (h : GenAt w u g) (hf : fewG g) :
    Calls Tryz.prog 37 #[u] w fun e w' => e = .returned (.bool (genOk g)) ∧ Fr (fun _ => False) w w' := by
  obtain ⟨ab, cb, an, cn, rfl, hb, hn⟩ := h.form
  obtain ⟨k, b, n⟩ := g
  obtain ⟨f1, f2⟩ := hf
  simp only at hb hn f1 f2 ⊢
  obtain ⟨z, hz⟩ : ∃ z, z = w.heap.size := ⟨_, rfl⟩
  have HZ := Lib.hid hz
  have F0 : Fr (fun _ => False) w (w.alloc (.cells #[.int .i64 k, .slice ab b.length cb, .slice an n.length cn] 46)) := (Fr.refl w).alloc _
  have B := Blk.new w 46 #[.int .i64 k, .slice ab b.length cb, .slice an n.length cn]
  rw [← hz] at B
  have HB := Lib.hid (hb.old F0)
  have HN := Lib.hid (hn.old F0)
  have HF0 := Lib.hid F0
  have HF2 := Lib.hid f2
  have hg : genOk ⟨k, b, n⟩ = if k = 4 then decide (b.length = 0) && nameOk n else decide (n.length = 0) && contB k b := rfl
  have HG := Lib.hid hg
  clear h hb hn F0 f2 hg hz
  go_enter Tryz.func37, Tryz.ntmps37
  go_upto_region 1 with fail
  rw [← HZ.out]
  generalize (w.alloc (.cells #[.int .i64 k, .slice ab b.length cb, .slice an n.length cn] 46)) = w0 at *
  have e0 := B.cell 0
  have e1 := B.cell 1
  have e2 := B.cell 2
  simp only [List.getElem?_toArray, List.getElem?_cons_succ, List.getElem?_cons_zero] at e0 e1 e2
  have hk : k = 4 ∨ ((k == 4) = false ∧ (k = 1 ∨ k = 2 ∨ k = 6)) ∨ k = 7 ∨ k = 8 ∨ ((k == 4) = false ∧ (k = 0 ∨ k = 3 ∨ k = 5)) ∨ ((k == 0) = false ∧ (k == 1) = false ∧ (k == 2) = false ∧ (k == 3) = false ∧ (k == 4) = false ∧ (k == 5) = false ∧ (k == 6) = false ∧ (k == 7) = false ∧ (k == 8) = false) := by
    simp only [beq_eq_false_iff_ne]
    omega
  by_cases h4 : k = 4
  · subst h4
    rw [if_pos rfl] at HG
    clear hk
    by_cases h0 : b.length = 0
    · have q1 : ((b.length : Int) == 0) = true := by rw [h0]; rfl
      have q2 : (b.length == 0) = true := by rw [h0]; rfl
      rw [decide_eq_true h0, Bool.true_and] at HG
      clear h0
      go_wp2_with fail
      refine (r14Right_any _ n w0 HN.out HF2.out).mono ?_
      rintro e w1 ⟨rfl, F1⟩
      go_wp2_with fail
      go_ret
      exact ⟨by rw [HG.out]; rfl, HF0.out.trans F1⟩
    · have q1 : ((b.length : Int) == 0) = false := beq_eq_false_iff_ne.2 (by omega)
      have q2 : (b.length == 0) = false := beq_eq_false_iff_ne.2 h0
      rw [decide_eq_false h0, Bool.false_and] at HG
      clear h0
      go_wp2_with fail
      go_ret
      exact ⟨by rw [HG.out]; rfl, HF0.out⟩
  have k4 : (k == 4) = false := beq_eq_false_iff_ne.2 h4
  rw [if_neg h4] at HG
  by_cases h0 : n.length = 0
  case neg =>
    have q1 : (0 : Int) < (n.length : Int) := by omega
    rw [decide_eq_false h0, Bool.false_and] at HG
    clear hk
    go_wp2_with fail
    go_ret
    exact ⟨by rw [HG.out]; rfl, HF0.out⟩
  rw [decide_eq_true h0, Bool.true_and] at HG
  have q0 : ¬ (0 : Int) < (n.length : Int) := by omega
  clear h4
  rcases hk with rfl | ⟨-, hk⟩ | rfl | rfl | ⟨-, hk⟩ | ⟨k0, k1, k2, k3, -, k5, k6, k7, k8⟩
  · exact absurd k4 (by decide)
  · have HC := Lib.hid (show contB k b = plainB b from if_pos hk)
    have hp : plainB b = (decide (0 < b.length) && b.all (fun c => decide (c.toNat ≤ 127))) := rfl
    have HP := Lib.hid hp
    clear hp h0
    rcases hk with rfl | rfl | rfl
    all_goals
      go_wp2_with fail
      go_loopg [4] b.length (fun g i wr => ∃ j : Nat, g = b.length - j ∧ j ≤ b.length ∧ i = .int .i64 j ∧ (∀ c ∈ b.take j, c.toNat ≤ 127) ∧ wr = w0)
      case atStart => exact ⟨0, rfl, Nat.zero_le _, rfl, by simp, rfl⟩
      case round =>
        obtain ⟨j, hg, hj, rfl, hall, rfl⟩ := hrel
        have HGG := Lib.hid hg
        have HA := Lib.hid hall
        clear hg hall
        by_cases hjl : j < b.length
        · obtain ⟨a0, c0, he, -, -, hx⟩ := HB.out.form
          simp only [Value.slice.injEq, true_and] at he
          obtain ⟨rfl, rfl⟩ := he
          obtain ⟨kk, o, rfl, hy⟩ := hx (by omega)
          obtain ⟨c, hc1⟩ : ∃ c, b[j]? = some c := ⟨_, List.getElem?_eq_getElem hjl⟩
          have ec := hy j c hc1
          have HCC := Lib.hid hc1
          have r1 : (0 : Int) ≤ (j : Int) := by omega
          have r2 : (j : Int) < (b.length : Int) := by omega
          clear hx hy hc1
          by_cases hc : 127 < c.toNat
          · have s1 : (127 : Int) < (c.toNat : Int) := by omega
            have hf : b.all (fun c => decide (c.toNat ≤ 127)) = false := List.all_eq_false.2 ⟨c, List.mem_of_getElem? HCC.out, by simp; omega⟩
            have HN2 := Lib.hid (HP.out.trans (by rw [hf, Bool.and_false]))
            clear hf hc
            go_wp2_with fail
            go_ret
            exact ⟨by rw [HG.out, HC.out, HN2.out]; rfl, HF0.out⟩
          · have s1 : ¬ (127 : Int) < (c.toNat : Int) := by omega
            have HN2 := Lib.hid (show ∀ x ∈ b.take (j + 1), x.toNat ≤ 127 from fun x hx => by
              rw [List.take_add_one, HCC.out] at hx
              rcases List.mem_append.1 hx with h | h
              · exact HA.out x h
              · simp at h
                subst h
                omega)
            clear hc
            go_wp2_with fail
            go_roundg (b.length - (j + 1))
            case measure => rw [HGG.out]; omega
            case rel => exact ⟨j + 1, rfl, by omega, by go_num, HN2.out, rfl⟩
        · have hall := HA.out
          rw [List.take_of_length_le (by omega)] at hall
          have HN2 := Lib.hid (HP.out.trans (by rw [List.all_eq_true.2 (fun x hx => decide_eq_true (hall x hx)), Bool.and_true]))
          clear hall
          go_wp2_with fail
          go_ret
          exact ⟨by rw [HG.out, HC.out, HN2.out]; rfl, HF0.out⟩
  · have HC := Lib.hid (show contB 7 b = decide (b.length = 4 ∨ b.length = 16) from rfl)
    have hc : ((b.length : Int) == 4) = true ∧ (b.length == 4) = true ∧ contB 7 b = true ∨ ((b.length : Int) == 4) = false ∧ (b.length == 4) = false ∧ ((b.length : Int) == 16) = decide (b.length = 16) ∧ (b.length == 16) = decide (b.length = 16) ∧ contB 7 b = decide (b.length = 16) := by
      by_cases h4 : b.length = 4
      · exact .inl ⟨by rw [h4]; rfl, by rw [h4]; rfl, HC.out.trans (decide_eq_true (.inl h4))⟩
      · refine .inr ⟨beq_eq_false_iff_ne.2 (by omega), beq_eq_false_iff_ne.2 h4, ?_, ?_, HC.out.trans (decide_eq_decide.2 (by omega))⟩
        · by_cases h : b.length = 16
          · rw [h]; rfl
          · rw [decide_eq_false h]; exact beq_eq_false_iff_ne.2 (by omega)
        · by_cases h : b.length = 16
          · rw [h]; rfl
          · rw [decide_eq_false h]; exact beq_eq_false_iff_ne.2 h
    rcases hc with ⟨c1, c2, c3⟩ | ⟨c1, c2, c3, c4, c5⟩
    case' inl => have HC2 := Lib.hid c3
    case' inr =>
      have HC2 := Lib.hid c5
      generalize decide (b.length = 16) = d16 at *
    all_goals
      go_wp2_with fail
      go_ret
      exact ⟨by rw [HG.out, HC2.out]; rfl, HF0.out⟩
  · have HC := Lib.hid (show contB 8 b = oidB b from rfl)
    have HO := Lib.hid (r04Parse_any _ b _ HB.out (by omega))
    go_wp2_with fail
    refine HO.out.mono ?_
    rintro e w1 ⟨hout, F1⟩
    have HF1 := Lib.hid (HF0.out.trans F1)
    clear F1 HO
    unfold oidParseOut at hout
    cases hr : oidParseS b with
    | error x =>
      rw [hr] at hout
      subst hout
      have hx1 : (x == 0) = false := beq_eq_false_iff_ne.2 (oidParse_nz hr)
      have HS := Lib.hid (show oidB b = false by unfold oidB; rw [hr])
      clear hr
      go_wp2_with fail
      go_ret
      exact ⟨by rw [HG.out, HC.out, HS.out]; rfl, HF1.out⟩
    | ok o =>
      rw [hr] at hout
      obtain ⟨ao, co, rfl, -⟩ := hout
      have HS := Lib.hid (show oidB b = true by unfold oidB; rw [hr])
      clear hr
      go_wp2_with fail
      go_ret
      exact ⟨by rw [HG.out, HC.out, HS.out]; rfl, HF1.out⟩
  · have HC := Lib.hid (show contB k b = wholesB b by
      unfold contB
      rw [if_neg (by omega), if_neg (by omega), if_neg (by omega), if_pos hk])
    have HO := Lib.hid (r08Wholes_any _ b _ HB.out (by omega))
    rcases hk with rfl | rfl | rfl
    all_goals
      go_wp2_with fail
      refine HO.out.mono ?_
      rintro e w1 ⟨hout, F1⟩
      have HF1 := Lib.hid (HF0.out.trans F1)
      unfold wholesOut at hout
      cases hr : allS b with
      | error x =>
        rw [hr] at hout
        subst hout
        have hx1 : (x == 0) = false := beq_eq_false_iff_ne.2 (allS_pos hr)
        have HS := Lib.hid (show wholesB b = false by unfold wholesB; rw [hr])
        clear hr
        go_wp2_with fail
        go_ret
        exact ⟨by rw [HG.out, HC.out, HS.out]; rfl, HF1.out⟩
      | ok ls =>
        rw [hr] at hout
        obtain ⟨a, cap, rfl⟩ := hout
        have HS := Lib.hid (show wholesB b = decide (0 < ls.length) by unfold wholesB; rw [hr])
        clear hr
        generalize ls.length = m at *
        go_wp2_with fail
        go_ret
        exact ⟨by rw [HG.out, HC.out, HS.out]; rfl, HF1.out⟩
  · have HC := Lib.hid (show contB k b = false by
      simp only [beq_eq_false_iff_ne] at k0 k1 k2 k3 k5 k6 k7 k8
      unfold contB
      rw [if_neg (by omega), if_neg (by omega), if_neg (by omega), if_neg (by omega)])
    go_wp2_with fail
    go_ret
    exact ⟨by rw [HG.out, HC.out]; rfl, HF0.out⟩
end Go.Proofs.YtacekpdjapgfcaaGreatDoor

namespace Go.Proofs.YtacekpdjapgfcaaGreatDoor
open Go Go.RowKit Go.Q
set_option linter.unusedSimpArgs false
def oidReadOut (w w' : World) (c : Nat) (K : Nat → Prop) (bs : List UInt8) (p : Nat) (r : Except Int (List Int × Nat)) (e : Ending) : Prop :=
  match r with
  | .ok (o, k) => ∃ a cc, e = .returned (.tuple #[.slice a o.length cc, .int .i64 0]) ∧ w'.ownsRow w.heap.size 3 1 (.slice a o.length cc) o.length (intCells o) ∧ CurAt w' c K bs (p + k)
  | .error x => e = .returned (.tuple #[.slice none 0 0, .int .i64 x]) ∧ CurAt w' c K bs p
set_option maxRecDepth 20000 in
set_option maxHeartbeats 2000000 in
theorem oidRead_any {w : World} {c : Nat} {K : Nat → Prop} {bs : List UInt8} {p : Nat} (h : CurAt w c K bs p) :
    Calls Tryz.prog 240 #[pt c] w fun e w' => oidReadOut w w' c K bs p (oidReadS (bs.drop p)) e ∧ Fr (fun k => k = c) w w' := by
  have hcl := h.lt
  have hsm := h.small
  have H := Lib.hid (h.step (K' := fun k => K k ∨ w.heap.size ≤ k) (Fr.refl w) (S := fun _ => False) (fun _ _ h => h.elim) (fun _ h => h))
  have HR := Lib.hid (show oidReadS (bs.drop p) = match openS (tagOf 6) (bs.drop p) with | .error e => .error e | .ok (x, k) => match oidParseS x with | .error e => .error e | .ok o => .ok (o, k) from rfl)
  have HA := Lib.hid (at_any H.out)
  clear h
  go_enter Tryz.func240, Tryz.ntmps240
  go_wp2_with fail
  refine HA.out.mono ?_
  rintro e w0 ⟨rfl, rfl⟩
  clear HA
  go_wp2_with fail
  refine (headOf_any 6 _).mono ?_
  rintro e w1 ⟨rfl, F1⟩
  have HO := Lib.hid (open_any (H.out.old F1) (tagOf 6))
  have HF1 := Lib.hid (F1.mono (T := fun k => k = c) (fun _ _ h => h.elim))
  have hs1 := F1.size
  clear F1
  go_wp2_with fail
  refine HO.out.mono ?_
  rintro e w2 ⟨hout, F2⟩
  have HF2 := Lib.hid (HF1.out.trans F2)
  have hs2 := HF2.out.size
  clear HO H F2 HF1
  unfold OpenOut at hout
  cases ho : openS (tagOf 6) (bs.drop p) with
  | error x =>
    have hx := openS_nz ho
    have hx1 : (x == 0) = false := beq_eq_false_iff_ne.2 hx
    have hx2 : (x != 0) = true := by simpa using hx
    have hr := HR.out
    rw [ho] at hout hr
    obtain ⟨rfl, C2⟩ := hout
    have HC2 := Lib.hid (C2.step (K' := K) (Fr.refl w2) (S := fun _ => False) (fun _ _ h => h.elim) (fun k hk => .inl (.inl hk)))
    have HR2 := Lib.hid hr
    clear ho hr HR C2 hx
    go_wp2_with fail
    refine bodyPost_ret (v := .tuple #[.slice none 0 0, .int .i64 x]) (by simp [results, Tryz.results240, go_sem]) rfl ⟨?_, HF2.out⟩
    rw [HR2.out]
    exact ⟨rfl, HC2.out⟩
  | ok yk =>
    obtain ⟨y, k⟩ := yk
    have hr := HR.out
    rw [ho] at hout hr
    obtain ⟨g, rfl, ⟨hg, hN⟩, C2⟩ := hout
    have hyl : y.length ≤ 16777216 := (open_back ho tag6).2.1
    have HR2 := Lib.hid hr
    have HC2 := Lib.hid C2
    have HRE := Lib.hid (rest_any hN)
    rw [List.drop_zero, Nat.sub_zero] at HRE
    clear ho hr HR C2
    go_wp2_with fail
    refine HRE.out.mono ?_
    rintro e w3 ⟨v, rfl, hown, C3, F3⟩
    have HV := Lib.hid (Vals.of_own hown).1
    obtain ⟨a, m, cap, rfl, rfl⟩ := own_shape hown
    have HC3 := Lib.hid (HC2.out.step (K' := fun k => K k ∨ w.heap.size ≤ k) F3 (fun k _ e => .inr (by omega)) (fun k hk => .inl hk))
    have HF3 := Lib.hid (HF2.out.trans' F3 (fun i hi e => by omega))
    have hs3 := F3.size
    have HP := Lib.hid (oidParse_any _ y w3 HV.out (by omega))
    clear hown C3 F3 HRE HC2 HF2 hN
    go_wp2_with fail
    refine HP.out.mono ?_
    rintro e w4 ⟨hout, F4⟩
    have HC4 := Lib.hid (HC3.out.old F4)
    have HF4 := Lib.hid (HF3.out.trans (F4.mono (fun _ _ h => h.elim)))
    clear F4 HC3 HF3 HP
    unfold oidParseOut at hout
    cases ho : oidParseS y with
    | error x =>
      have hx := oidParse_nz ho
      have hx1 : (x == 0) = false := beq_eq_false_iff_ne.2 hx
      have hx2 : (x != 0) = true := by simpa using hx
      have hr := HR2.out
      rw [ho] at hout
      simp only [ho] at hr
      subst hout
      have HR3 := Lib.hid hr
      have HB := Lib.hid (back_any HC4.out p (by omega))
      clear ho hr hx
      go_wp2_with fail
      refine HB.out.mono ?_
      rintro e w5 ⟨rfl, C5, F5⟩
      have HC5 := Lib.hid (C5.step (K' := K) (Fr.refl w5) (S := fun _ => False) (fun _ _ h => h.elim) (fun k hk => .inl (.inl hk)))
      have HF5 := Lib.hid (HF4.out.trans F5)
      clear C5 F5 HB
      go_wp2_with fail
      refine bodyPost_ret (v := .tuple #[.slice none 0 0, .int .i64 x]) (by simp [results, Tryz.results240, go_sem]) rfl ⟨?_, HF5.out⟩
      rw [HR3.out]
      exact ⟨rfl, HC5.out⟩
    | ok o =>
      have hr := HR2.out
      rw [ho] at hout
      simp only [ho] at hr
      obtain ⟨ao, co, rfl, hown⟩ := hout
      have HR3 := Lib.hid hr
      have HO := Lib.hid (own_le hown (Nat.le_trans hs2 hs3))
      clear ho hr hown
      go_wp2_with fail
      refine bodyPost_ret (v := .tuple #[.slice ao o.length co, .int .i64 0]) (by simp [results, Tryz.results240, go_sem]) rfl ⟨?_, HF4.out⟩
      rw [HR3.out]
      exact ⟨ao, co, rfl, HO.out, HC4.out.step (K' := K) (Fr.refl w4) (S := fun _ => False) (fun _ _ h => h.elim) (fun k hk => .inl (.inl hk))⟩
def valueOut (w w' : World) (c : Nat) (K : Nat → Prop) (bs : List UInt8) (p : Nat) (r : Except Int (Tag × Nat × Nat)) (e : Ending) : Prop :=
  match r with
  | .ok (_, _, n) => ∃ a cc, e = .returned (.tuple #[.slice a n cc, .int .i64 0]) ∧ w'.ownsRow w.heap.size 5 1 (.slice a n cc) n (Lib.byteCells ((bs.drop p).take n)) ∧ CurAt w' c K bs (p + n)
  | .error x => e = .returned (.tuple #[.slice none 0 0, .int .i64 x]) ∧ ∃ q, p ≤ q ∧ CurAt w' c K bs q
set_option maxRecDepth 20000 in
set_option maxHeartbeats 2000000 in
theorem value_any {w : World} {c : Nat} {K : Nat → Prop} {bs : List UInt8} {p : Nat} (h : CurAt w c K bs p) :
    Calls Tryz.prog 241 #[.agg #[pt c]] w fun e w' => valueOut w w' c K bs p (oneS (bs.drop p)) e ∧ Fr (fun k => k = c) w w' := by
  have hcl := h.lt
  have hsm := h.small
  have hle := h.le
  have F0 : Fr (fun _ => False) w (w.alloc (.cells #[pt c] 165)) := (Fr.refl w).alloc _
  have B0 := Blk.new w 165 #[pt c]
  have H := Lib.hid (h.step (K' := fun k => K k ∨ w.heap.size ≤ k) F0 (fun _ _ h => h.elim) (fun _ h => h))
  have HF0 := Lib.hid (F0.mono (T := fun k => k = c) (fun _ _ h => h.elim))
  obtain ⟨b0, hb0⟩ : ∃ b0, b0 = w.heap.size := ⟨_, rfl⟩
  have hbc : b0 ≠ c := by omega
  rw [← hb0] at B0
  have HBB := Lib.hid B0
  have e0 : (w.alloc (.cells #[pt c] 165)).cell? ⟨b0, 0, none⟩ = some (pt c) := B0.cell 0
  have HB0 := Lib.hid hb0
  have HA := Lib.hid (at_any H.out)
  have HRD := Lib.hid (headRead_any H.out)
  clear h F0 B0 hb0
  go_enter Tryz.func241, Tryz.ntmps241
  go_upto_region 1 with fail
  rw [← HB0.out]
  generalize hw0 : (w.alloc (.cells #[pt c] 165)) = w0 at *
  clear hw0
  go_wp2_with fail
  refine HA.out.mono ?_
  rintro e w0' ⟨rfl, rfl⟩
  clear HA
  go_wp2_with fail
  refine HRD.out.mono ?_
  rintro e w1 ⟨⟨⟨tc, tn, tm⟩, n, x, rfl, ht⟩, C1, F1⟩
  rw [show tagV ⟨tc, tn, tm⟩ = .agg #[.int .i64 tc, .int .i64 tn, .bool tm] from rfl]
  have HT := Lib.hid ht
  have F2 : Fr (fun _ => False) w1 (w1.alloc (.cells #[.int .i64 tc, .int .i64 tn, .bool tm] 97)) := (Fr.refl w1).alloc _
  have HC2 := Lib.hid (C1.old F2)
  have HF2 := Lib.hid ((HF0.out.trans F1).trans (F2.mono (T := fun k => k = c) (fun _ _ h => h.elim)))
  replace e0 := ((HBB.out.fr F1 hbc).fr F2 (fun h => h)).cell 0
  simp at e0
  clear ht C1 F1 F2 HRD HF0 H
  go_upto_region 3 with fail
  generalize (w1.alloc (.cells #[.int .i64 tc, .int .i64 tn, .bool tm] 97)) = w2 at *
  by_cases hx : x = 0
  · subst hx
    have hok : ∃ u k, readS (bs.drop p) = .ok (u, n, k) := by
      have ht := HT.out
      cases hr : readS (bs.drop p) with
      | error e => rw [hr] at ht; exact absurd ht.symm (readS_err hr)
      | ok vk => obtain ⟨v, m, k⟩ := vk; rw [hr] at ht; exact ⟨v, k, by rw [ht.2.1]⟩
    obtain ⟨u, k, hk⟩ := hok
    have hkl := (readS_le hk)
    rw [List.length_drop] at hkl
    have hc := HC2.out
    rw [hk] at hc
    have HC : Hid (CurAt w2 c (fun k => K k ∨ w.heap.size ≤ k) bs (p + k)) := Lib.hid hc
    have HL := Lib.hid (left_any HC.out)
    have HK := Lib.hid hk
    have hkk : p + k ≤ bs.length := by omega
    have hn16 := hkl.2
    clear hk hc HC2 HT hkl
    go_wp2_with fail
    refine HL.out.mono ?_
    rintro e w3 ⟨rfl, F3⟩
    have HC3 := Lib.hid (HC.out.old F3)
    have HF3 := Lib.hid (HF2.out.trans (F3.mono (T := fun k => k = c) (fun _ _ h => h.elim)))
    replace e0 := F3.cell e0 (fun h => h)
    clear F3 HL HC HF2
    by_cases hn : n ≤ bs.length - (p + k)
    · have q1 : ¬ ((bs.length - (p + k) : Nat) : Int) < (n : Int) := by omega
      have q2 : ¬ bs.length - (p + k) < n := by omega
      have HO := Lib.hid (oneOk HK.out (by rw [List.length_drop]; omega))
      have HA := Lib.hid (at_any HC3.out)
      have hkn : k + n ≤ bs.length - p := by omega
      have HKN := Lib.hid hkn
      have hkn2 : k + n ≤ 1099511627776 := by omega
      clear hkn
      generalize bs.length - (p + k) = lq at *
      go_wp2_with fail
      refine HA.out.mono ?_
      rintro e w0' ⟨rfl, rfl⟩
      have hw1 : wrap64 (((p + k : Nat) : Int) - (p : Int)) = (k : Int) := by unfold wrap64; omega
      have HB := Lib.hid (back_any HC3.out p (by omega))
      generalize ((p + k : Nat) : Int) = pk at *
      go_upto_region 8 with fail
      simp only [hw1]
      clear hw1
      go_wp2_with fail
      refine HB.out.mono ?_
      rintro e w4 ⟨rfl, C4, F4⟩
      have HTK := Lib.hid (take_ok C4 (k + n) HKN.out)
      rw [Int.natCast_add] at HTK
      have HF4 := Lib.hid (HF3.out.trans F4)
      have hs4 := HF4.out.size
      replace e0 := F4.cell e0 hbc
      have b1 : (0 : Int) ≤ (k : Int) + (n : Int) := by omega
      have b2 : (k : Int) + (n : Int) ≤ 1099511627776 := by omega
      clear C4 F4 HB HC3 HF3 HA
      go_wp2_with fail
      refine HTK.out.mono ?_
      rintro e w5 ⟨v, rfl, hown, C5, F5⟩
      obtain ⟨a, m, cap, rfl, rfl⟩ := own_shape hown
      have HOW := Lib.hid (own_le hown hs4)
      have HC := Lib.hid (C5.step (K' := K) (Fr.refl w5) (S := fun _ => False) (fun _ _ h => h.elim) (fun k hk => .inl (.inl hk)))
      have HF5 := Lib.hid (HF4.out.trans F5)
      clear hown C5 F5 HTK HF4
      go_wp2_with fail
      refine bodyPost_ret (v := .tuple #[.slice a (k + n) cap, .int .i64 0]) (by simp [results, Tryz.results241, go_sem]) rfl ⟨?_, HF5.out⟩
      rw [HO.out]
      exact ⟨a, cap, rfl, HOW.out, HC.out⟩
    · have HO := Lib.hid (oneEnd HK.out (by rw [List.length_drop]; omega))
      have q1 : ((bs.length - (p + k) : Nat) : Int) < (n : Int) := by omega
      have q2 : bs.length - (p + k) < n := by omega
      have HC := Lib.hid (HC3.out.step (K' := K) (Fr.refl w3) (S := fun _ => False) (fun _ _ h => h.elim) (fun k hk => .inl (.inl hk)))
      generalize bs.length - (p + k) = lq at *
      go_wp2_with fail
      refine bodyPost_ret (v := .tuple #[.slice none 0 0, .int .i64 3]) (by simp [results, Tryz.results241, go_sem]) rfl ⟨?_, HF3.out⟩
      rw [HO.out]
      exact ⟨rfl, _, Nat.le_add_right p k, HC.out⟩
  · have hx1 : (x == 0) = false := beq_eq_false_iff_ne.2 hx
    have hx2 : (x != 0) = true := by simpa using hx
    have herr : readS (bs.drop p) = .error x := by
      have ht := HT.out
      cases hr : readS (bs.drop p) with
      | error e => rw [hr] at ht; rw [show x = e from ht]
      | ok vk => obtain ⟨v, m, k⟩ := vk; rw [hr] at ht; exact absurd ht.2.2 hx
    have hc := HC2.out
    rw [herr] at hc
    have HO := Lib.hid (oneE herr)
    have HC := Lib.hid (hc.step (K' := K) (Fr.refl w2) (S := fun _ => False) (fun _ _ h => h.elim) (fun k hk => .inl (.inl hk)))
    clear herr hc
    go_wp2_with fail
    refine bodyPost_ret (v := .tuple #[.slice none 0 0, .int .i64 x]) (by simp [results, Tryz.results241, go_sem]) rfl ⟨?_, HF2.out⟩
    rw [HO.out]
    exact ⟨rfl, p, Nat.le_refl _, HC.out⟩
end Go.Proofs.YtacekpdjapgfcaaGreatDoor
