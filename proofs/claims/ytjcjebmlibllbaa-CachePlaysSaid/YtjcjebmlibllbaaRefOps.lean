/-
  The walks of the reference's cache: Drop, Tick, Next, Put, Get.
-/
import Derived.Test.YtjcjebmlibllbaaRefW
import Derived.Test.YtjcjebmlibllbaaCaRoomW
namespace Go.Q
open Go
/-- No key twice. -/
def NK (L : List Slot) : Prop := (L.map (·.key)).Nodup
theorem nk_cons {x : Slot} {t : List Slot} (h : NK (x :: t)) : (∀ y ∈ t, y.key ≠ x.key) ∧ NK t := by
  simp only [NK, List.map_cons, List.nodup_cons] at h
  exact ⟨fun y hy e => h.1 (List.mem_map.2 ⟨y, hy, e⟩), h.2⟩
theorem nk_del {k : ByteArray} {L : List Slot} (h : NK L) : NK (del k L) := by
  unfold NK at *
  exact h.sublist (List.filter_sublist.map _)
theorem erase_del {s : Slot} : ∀ {L : List Slot} {i : Nat}, NK L → L[i]? = some s → L.eraseIdx i = del s.key L
  | [], _, _, h => by simp at h
  | x :: t, 0, hn, h => by
    simp at h
    subst h
    have := del_not (nk_cons hn).1
    simp only [del] at this ⊢
    rw [List.eraseIdx_cons_zero, List.filter_cons, if_neg (by simp)]
    exact this.symm
  | x :: t, i + 1, hn, h => by
    simp only [List.getElem?_cons_succ] at h
    have ih := erase_del (nk_cons hn).2 h
    have hne : x.key ≠ s.key := fun e => (nk_cons hn).1 s (List.mem_of_getElem? h) e.symm
    simp only [List.eraseIdx_cons_succ, ih]
    simp [del, hne]
theorem look_nk {s : Slot} : ∀ {L : List Slot}, NK L → s ∈ L → lookS s.key L = some s
  | [], _, h => by simp at h
  | x :: t, hn, h => by
    rcases List.mem_cons.1 h with rfl | h
    · simp [lookS]
    · have hne : x.key ≠ s.key := fun e => (nk_cons hn).1 s h e.symm
      have ih := look_nk (nk_cons hn).2 h
      simp only [lookS] at ih ⊢
      simp [hne, ih]
end Go.Q
namespace Go.Proofs.Ytjcjebmlibllbaa
open Go Go.RowKit Go.Q

theorem away_nk {w : World} {c : Nat} {K : Nat → Prop} {room : Int} {L : List Slot} (h : Away w c K room L) : NK L := by
  obtain ⟨r, m, bs, D, hC, hk, rfl⟩ := h
  have := keys_of hC.map
  unfold NK
  rw [List.map_map]
  exact this

set_option maxHeartbeats 2000000 in
theorem rdrop_any {w : World} {q : Nat} {K : Nat → Prop} {room : Int} {L : List Slot} (h : RefAt w q K room L) (hK : ∀ k, K k → k < w.heap.size) (hL : L.length ≤ 10000) (hn : NK L) {v : Value} {ks : List ByteArray} (hv : Strs w v ks) (hlen : ks.length ≤ 1000000) (hvb : ∀ k, v.ownBlock = some k → k ≠ q) :
    Calls Try.prog 35 #[pt q, v] w fun e w' => e = .returned (.int .i64 (dropS L ks).1) ∧ RefAt w' q K room (dropS L ks).2 ∧ Fr (fun k => k = q) w w' := by
  obtain ⟨a, cap, rfl, hcap, hx⟩ := hv
  have HX := Lib.hid hx
  have HR := Lib.hid h
  clear hx h
  go_enter Try.func35, Try.ntmps35
  go_wp2_with fail
  go_loopg [5, 6] ks.length (fun g n i wr => ∃ (j cnt : Nat) (L1 : List Slot), g = ks.length - j ∧ j ≤ ks.length ∧ i = .int .i64 j ∧ n = .int .i64 cnt ∧ cnt ≤ j ∧ RefAt wr q K room L1 ∧ NK L1 ∧ L1.length ≤ 10000 ∧
    Fr (fun k => k = q) w wr ∧ cnt + (dropS L1 (ks.drop j)).1 = (dropS L ks).1 ∧ (dropS L1 (ks.drop j)).2 = (dropS L ks).2)
  case atStart => exact ⟨0, 0, L, rfl, Nat.zero_le _, rfl, rfl, Nat.le_refl _, HR.out, hn, hL, Fr.refl _, by simp, by simp⟩
  case round =>
    obtain ⟨j, cnt, L1, hg, hj, rfl, rfl, hcj, hC1, hn1, hL1, hF1, hd1, hd2⟩ := hrel
    have HD := Lib.hid (And.intro hd1 hd2)
    have HG := Lib.hid hg
    clear hd1 hd2 hg
    by_cases hjl : j < ks.length
    · obtain ⟨b0, o0, rfl, hxx⟩ := HX.out (by omega)
      have hcell := hF1.cell (hxx j hjl) (hvb b0 rfl)
      obtain ⟨k0, hk0⟩ : ∃ k0, k0 = ks.getD j ⟨#[]⟩ := ⟨_, rfl⟩
      have hdj : ks.drop j = k0 :: ks.drop (j + 1) := by
        rw [List.drop_eq_getElem_cons hjl, hk0]; simp [List.getD, hjl]
      rw [← hk0] at hcell
      have HDJ := Lib.hid hdj
      clear hk0 hdj hxx
      have q1 : (0 : Int) ≤ (j : Int) := by omega
      have q2 : (j : Int) < (ks.length : Int) := by omega
      have HC1 := Lib.hid hC1
      have HP := Lib.hid (place_any hC1 hL1 k0)
      clear hC1
      go_wp2_with fail
      refine HP.out.mono ?_
      rintro e w1 ⟨rfl, hpl⟩
      rcases hpl with ⟨i, s, rfl, hi, hks⟩ | ⟨rfl, hno⟩
      · have hil : i < L1.length := (List.getElem?_eq_some_iff.1 hi).1
        have hlk : lookS k0 L1 = some s := hks ▸ look_nk hn1 (List.mem_of_getElem? hi)
        have hE : L1.eraseIdx i = del k0 L1 := hks ▸ erase_del hn1 hi
        have HLE := Lib.hid (less_any HC1.out (fun k hk => Nat.lt_of_lt_of_le (hK k hk) hF1.size) hL1 i hil)
        have HL := Lib.hid (And.intro hlk hE)
        have q3 : (0 : Int) ≤ (i : Int) := by omega
        clear hlk hE hks hi
        go_wp2_with fail
        refine HLE.out.mono ?_
        rintro e w2 ⟨rfl, C2, F2⟩
        go_wp2_with fail
        go_roundg (ks.length - (j + 1))
        case measure => rw [HG.out]; omega
        case rel =>
          obtain ⟨d1, d2⟩ := HD.out
          rw [HDJ.out] at d1 d2
          simp only [dropS, HL.out.1, Option.isSome_some, if_true] at d1 d2
          rw [HL.out.2] at C2
          exact ⟨j + 1, cnt + 1, del k0 L1, rfl, by omega, by go_num, by go_num, by omega, C2, nk_del hn1, Nat.le_trans (del_len _ _) hL1, hF1.trans F2, by omega, d2⟩
      · have hlk : lookS k0 L1 = none := lookS_none hno
        have HL := Lib.hid hlk
        clear hlk hno
        go_wp2_with fail
        go_roundg (ks.length - (j + 1))
        case measure => rw [HG.out]; omega
        case rel =>
          obtain ⟨d1, d2⟩ := HD.out
          rw [HDJ.out] at d1 d2
          simp only [dropS, HL.out, Option.isSome_none, Bool.false_eq_true, if_false] at d1 d2
          exact ⟨j + 1, cnt, L1, rfl, by omega, by go_num, rfl, by omega, HC1.out, hn1, hL1, hF1, d1, d2⟩
    · go_wp2_with fail
      go_ret
      obtain ⟨d1, d2⟩ := HD.out
      have : ks.drop j = [] := List.drop_eq_nil_of_le (by omega)
      rw [this] at d1 d2
      simp only [dropS] at d1 d2
      exact ⟨by rw [← d1]; simp, d2 ▸ hC1, hF1⟩

set_option maxHeartbeats 2000000 in
theorem rtick_any {w : World} {q : Nat} {K : Nat → Prop} {room : Int} {L : List Slot} (h : RefAt w q K room L) (hK : ∀ k, K k → k < w.heap.size) (hL : L.length ≤ 10000) (now : Int) :
    Calls Try.prog 34 #[pt q, .int .i64 now] w fun e w' => e = .returned (.int .i64 (tickS L now).1) ∧ RefAt w' q K room (tickS L now).2 ∧ Fr (fun k => k = q) w w' := by
  have HR := Lib.hid h
  obtain ⟨sl, B, hown, -, -⟩ := h
  obtain ⟨a, cap, rfl, -, -, -⟩ := own_form7 hown
  have e1 := B.cell 1
  simp at e1
  have hw0 : IntKind.i64.wrap ((L.length : Int) - 1) = (L.length : Int) - 1 := by simp [IntKind.wrap, IntKind.signed, IntKind.bits]; omega
  clear hown B
  go_enter Try.func34, Try.ntmps34
  go_wp2_with fail
  clear e1
  go_loopg [5, 6] L.length (fun g n i wr => ∃ (m cnt : Nat) (t : Int) (L1 : List Slot), g = m ∧ m ≤ L.length ∧ t = (m : Int) - 1 ∧ i = .int .i64 t ∧ n = .int .i64 cnt ∧ L1 = L.take m ++ (tickS (L.drop m) now).2 ∧ cnt = (tickS (L.drop m) now).1 ∧ RefAt wr q K room L1 ∧ Fr (fun k => k = q) w wr)
  case atStart => exact ⟨L.length, 0, (L.length : Int) - 1, L, rfl, Nat.le_refl _, rfl, by go_num, rfl, by simp [tickS], by simp [tickS], HR.out, Fr.refl _⟩
  case round =>
    obtain ⟨m, cnt, t, L1, hg, hm, ht, rfl, rfl, hL1, hcnt, hC1, hF1⟩ := hrel
    have HC1 := Lib.hid hC1
    have HL1 := Lib.hid hL1
    have HCN := Lib.hid hcnt
    have HG := Lib.hid hg
    have htl : (tickS (L.drop m) now).2.length ≤ L.length - m := Nat.le_trans (List.length_filter_le _ _) (by simp)
    have htc : (tickS (L.drop m) now).1 ≤ L.length - m := Nat.le_trans (List.length_filter_le _ _) (by simp)
    have hl1 : L1.length ≤ 10000 ∧ m ≤ L1.length := by rw [hL1, List.length_append, List.length_take]; omega
    have hcm : cnt ≤ 10000 := by omega
    clear hL1 hcnt hg htl htc
    rcases Nat.eq_zero_or_pos m with rfl | hm0
    · obtain rfl : t = -1 := by omega
      clear ht
      go_wp2_with fail
      go_ret
      refine ⟨by rw [HCN.out]; simp, ?_, hF1⟩
      have := HL1.out
      simp at this
      rw [← this]
      exact HC1.out
    · obtain ⟨k, rfl⟩ : ∃ k, m = k + 1 := ⟨m - 1, by omega⟩
      obtain rfl : t = (k : Int) := by omega
      clear ht
      obtain ⟨sl1, B1, hown1, -, -⟩ := hC1
      obtain ⟨g1, cap1, rfl, -, -, hx⟩ := own_cells hown1 (by omega)
      have e1 := B1.cell 1
      simp at e1
      obtain ⟨s, hs⟩ : ∃ s, L[k]? = some s := ⟨_, List.getElem?_eq_getElem (by omega)⟩
      have hs1 : L1[k]? = some s := by
        rw [HL1.out, List.getElem?_append_left (by rw [List.length_take]; omega), List.getElem?_take, if_pos (by omega), hs]
      have c0 := hx (k * 7 + 6) (.int .i64 s.to) (by rw [rows_get (by decide) hs1]; rfl)
      have q1 : (0 : Int) ≤ (k : Int) := by omega
      have q2 : (k : Int) < (L1.length : Int) := by omega
      have hdr : L.drop k = s :: L.drop (k + 1) := by
        obtain ⟨hk, hs2⟩ := List.getElem?_eq_some_iff.1 hs
        rw [List.drop_eq_getElem_cons hk, hs2]
      have HDR := Lib.hid hdr
      have hE : L1.eraseIdx k = L.take k ++ (tickS (L.drop (k + 1)) now).2 := by
        have hkL : k < L.length := by omega
        rw [HL1.out, List.eraseIdx_append_of_lt_length (by rw [List.length_take]; omega)]
        congr 1
        rw [List.take_add_one, hs, Option.toList_some, List.eraseIdx_append_of_length_le (by rw [List.length_take]; omega)]
        rw [show k - (L.take k).length = 0 from by rw [List.length_take]; omega]
        simp
      have hT : L1 = L.take k ++ s :: (tickS (L.drop (k + 1)) now).2 := by
        rw [HL1.out, List.take_add_one, hs]; simp
      have HE := Lib.hid (And.intro hE hT)
      have HLE := Lib.hid (less_any HC1.out (fun k hk => Nat.lt_of_lt_of_le (hK k hk) hF1.size) hl1.1 k (by omega))
      clear hx hs hs1 hdr hE hT B1 hown1
      by_cases hlt : s.to < now
      · go_wp2_with fail
        refine HLE.out.mono ?_
        rintro e w2 ⟨rfl, C2, F2⟩
        go_wp2_with fail
        go_roundg k
        case measure => rw [HG.out]; omega
        case rel =>
          rw [HE.out.1] at C2
          refine ⟨k, cnt + 1, (k : Int) - 1, _, rfl, by omega, rfl, by go_num, by go_num, ?_, ?_, C2, hF1.trans F2⟩
          · rw [HDR.out]
            simp [tickS, hlt]
          · rw [HCN.out, HDR.out]
            simp [tickS, hlt]
      · go_wp2_with fail
        go_roundg k
        case measure => rw [HG.out]; omega
        case rel =>
          have hlt' : ¬ s.to < now := by omega
          refine ⟨k, cnt, (k : Int) - 1, L1, rfl, by omega, rfl, by go_num, rfl, ?_, ?_, HC1.out, hF1⟩
          · rw [HE.out.2, HDR.out]
            simp [tickS, hlt']
          · rw [HCN.out, HDR.out]
            simp [tickS, hlt']
end Go.Proofs.Ytjcjebmlibllbaa
