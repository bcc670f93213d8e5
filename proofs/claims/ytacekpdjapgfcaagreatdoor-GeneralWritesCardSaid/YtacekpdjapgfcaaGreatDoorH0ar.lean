/-
  Merged by program: XGenB XGenR XNkLaw XNkKnown XNkWalk1 XNbW XGenRd XR15R XGenRl XR15L.
-/
import Derived.Test.YtacekpdjapgfcaaGreatDoorH0an
import Derived.Test.YtacekpdjapgfcaaGreatDoorH0ap
import Derived.Test.YtacekpdjapgfcaaGreatDoorH0ak
import Derived.Test.YtacekpdjapgfcaaGreatDoorH0ao
import Derived.Test.YtacekpdjapgfcaaGreatDoorH0aq
import Derived.Deep.CutBlock
import Derived.Deep.CutRange
import Derived.Deep.Cut
namespace Go.Proofs.YtacekpdjapgfcaaGreatDoor
open Go Go.RowKit Go.Q
set_option linter.unusedSimpArgs false
theorem made_any (k : Int) (w : World) :
    Calls Tryz.prog 120 #[.int .i64 k] w fun e w' => e = .returned (.bool (madeG k)) ∧ w = w' := by
  have hk : k = 0 ∨ k = 3 ∨ k = 4 ∨ k = 5 ∨ ((k == 0) = false ∧ (k == 3) = false ∧ (k == 4) = false ∧ (k == 5) = false) := by
    simp only [beq_eq_false_iff_ne]
    omega
  rcases hk with rfl | rfl | rfl | rfl | ⟨h0, h3, h4, h5⟩
  all_goals
    go_enter Tryz.func120, Tryz.ntmps120
    go_wp2_with fail
    go_ret
    first | exact ⟨rfl, rfl⟩ | exact ⟨by simp [madeG, h0, h3, h4, h5], rfl⟩
set_option maxRecDepth 20000 in
theorem headAt_any (k : Int) (m : Bool) (w : World) :
    Calls Tryz.prog 134 #[.int .i64 k, .bool m] w fun e w' => e = .returned (tagV (tagAt k m)) ∧ Fr (fun _ => False) w w' := by
  go_enter Tryz.func134, Tryz.ntmps134
  go_wp2_with fail
  exact bodyPost_ret (v := tagV (tagAt k m)) (by simp [results, Tryz.results134, go_sem, tagV, tagAt]) rfl ⟨rfl, (Fr.refl w).alloc _⟩
set_option maxRecDepth 20000 in
theorem genTag_any (k : Int) (w : World) :
    Calls Tryz.prog 90 #[.int .i64 k] w fun e w' => e = .returned (tagV (genTag k)) ∧ Fr (fun _ => False) w w' := by
  obtain ⟨m, hm⟩ : ∃ m, m = madeG k := ⟨_, rfl⟩
  have HM := Lib.hid (fun w => made_any k w)
  have HG := Lib.hid (show genTag k = tagAt k (madeG k) from rfl)
  rw [← hm] at HM HG
  clear hm
  obtain ⟨z, hz⟩ : ∃ z, z = w.heap.size := ⟨_, rfl⟩
  have HZ := Lib.hid hz
  have B := Blk.new w 97 #[.int .i64 0, .int .i64 0, .bool false]
  have F0 : Fr (fun _ => False) w (w.alloc (.cells #[.int .i64 0, .int .i64 0, .bool false] 97)) := (Fr.refl w).alloc _
  rw [← hz] at B
  clear hz
  go_enter Tryz.func90, Tryz.ntmps90
  go_upto_region 1 with fail
  rw [← HZ.out]
  generalize (w.alloc (.cells #[.int .i64 0, .int .i64 0, .bool false] 97)) = w0 at *
  have HF0 := Lib.hid F0
  clear F0
  go_wp2_with fail
  refine (HM.out w0).mono ?_
  rintro e w1 ⟨rfl, rfl⟩
  go_wp2_with fail
  refine (headAt_any k m w0).mono ?_
  rintro e w1 ⟨rfl, F1⟩
  have BZ := B.fr F1 (fun h => h)
  have HF1 := Lib.hid (HF0.out.trans F1)
  rw [show tagV (tagAt k m) = .agg #[.int .i64 2, .int .i64 k, .bool m] from rfl]
  obtain ⟨BZ5, F5⟩ := set3 BZ (.int .i64 2) (.int .i64 k) (.bool m)
  have z0 := BZ.cell 0
  have z1 := BZ.cell 1
  have z2 := BZ.cell 2
  have f0 := BZ.frozen 0
  have f1 := BZ.frozen 1
  have f2 := BZ.frozen 2
  have n0 := BZ5.cell 0
  have n1 := BZ5.cell 1
  have n2 := BZ5.cell 2
  simp only [List.getElem?_toArray, List.getElem?_cons_succ, List.getElem?_cons_zero] at z0 z1 z2 n0 n1 n2
  have HF5 := Lib.hid (HF1.out.trans' F5 (fun i hi e => by have := HZ.out; omega))
  clear B BZ BZ5 F1 F5
  go_wp2_with fail
  refine bodyPost_ret (v := .agg #[.int .i64 2, .int .i64 k, .bool m]) (by simp [results, Tryz.results90, go_sem, n0, n1, n2]) rfl ⟨?_, HF5.out⟩
  rw [HG.out]
  rfl
theorem plain1_any (c : UInt8) (w : World) :
    Calls Tryz.prog 180 #[.int .u8 c.toNat] w fun e w' => e = .returned (.bool (decide (127 < c.toNat))) ∧ w = w' := by
  have hd : decide ((127 : Int) < (c.toNat : Int)) = decide (127 < c.toNat) := decide_eq_decide.2 (by omega)
  go_enter Tryz.func180, Tryz.ntmps180
  go_wp2_with fail
  go_ret
  exact ⟨by rw [← hd]; rfl, rfl⟩
set_option maxRecDepth 20000 in
set_option maxHeartbeats 1000000 in
theorem indexPlain_any (v : Value) (b : List UInt8) (w : World) (h : Bytes w v b) :
    Calls Tryz.prog 230 #[v, .func (.func 180) #[] #[]] w fun e w' => (∃ x : Int, e = .returned (.int .i64 x) ∧ decide (0 ≤ x) = !(b.all (fun c => decide (c.toNat ≤ 127)))) ∧ w = w' := by
  have H := Lib.hid h
  obtain ⟨a, cap, rfl, hc, hm, -⟩ := h.form
  have hm2 : cap ≤ 9223372036854775807 := by unfold maxLen at hm; omega
  clear h hm
  go_enter Tryz.func230, Tryz.ntmps230
  go_wp2_with fail
  go_loopg [8] b.length (fun g i wr => ∃ j : Nat, g = b.length - j ∧ j ≤ b.length ∧ i = .int .i64 j ∧ (∀ c ∈ b.take j, c.toNat ≤ 127) ∧ wr = w)
  case atStart => exact ⟨0, rfl, Nat.zero_le _, rfl, by simp, rfl⟩
  case round =>
    obtain ⟨j, hg, hj, rfl, hall, rfl⟩ := hrel
    have HG := Lib.hid hg
    have HA := Lib.hid hall
    clear hg hall
    by_cases hjl : j < b.length
    · obtain ⟨a0, c0, he, -, -, hx⟩ := H.out.form
      simp only [Value.slice.injEq, true_and] at he
      obtain ⟨rfl, rfl⟩ := he
      obtain ⟨k, o, rfl, hy⟩ := hx (by omega)
      obtain ⟨c, hc1⟩ : ∃ c, b[j]? = some c := ⟨_, List.getElem?_eq_getElem hjl⟩
      have e1 := hy j c hc1
      have HC := Lib.hid hc1
      have r1 : (0 : Int) ≤ (j : Int) := by omega
      have r2 : (j : Int) < (b.length : Int) := by omega
      clear hx hy hc1
      obtain ⟨d, hd⟩ : ∃ d, d = decide (127 < c.toNat) := ⟨_, rfl⟩
      have HP := Lib.hid (plain1_any c wr)
      rw [← hd] at HP
      have HD := Lib.hid hd
      clear hd
      go_wp2_with fail
      refine HP.out.mono ?_
      rintro e w1 ⟨rfl, rfl⟩
      cases d with
      | true =>
        go_wp2_with fail
        go_ret
        refine ⟨⟨(j : Int), rfl, ?_⟩, rfl⟩
        have h1 := of_decide_eq_true HD.out.symm
        have h2 : b.all (fun c => decide (c.toNat ≤ 127)) = false := by
          rw [List.all_eq_false]
          exact ⟨c, List.mem_of_getElem? HC.out, by simp; omega⟩
        rw [h2, decide_eq_true (by omega)]
        rfl
      | false =>
        have h1 := of_decide_eq_false HD.out.symm
        have HN := Lib.hid (show ∀ x ∈ b.take (j + 1), x.toNat ≤ 127 from fun x hx => by
          rw [List.take_add_one, HC.out] at hx
          rcases List.mem_append.1 hx with h | h
          · exact HA.out x h
          · simp at h
            subst h
            omega)
        clear h1
        go_wp2_with fail
        go_roundg (b.length - (j + 1))
        case measure => rw [HG.out]; omega
        case rel => exact ⟨j + 1, rfl, by omega, by go_num, HN.out, rfl⟩
    · have hall := HA.out
      rw [List.take_of_length_le (by omega)] at hall
      have HN := Lib.hid (show b.all (fun c => decide (c.toNat ≤ 127)) = true from List.all_eq_true.2 fun x hx => decide_eq_true (hall x hx))
      clear hall
      go_wp2_with fail
      go_ret
      exact ⟨⟨-1, rfl, by rw [HN.out]; rfl⟩, rfl⟩
set_option maxRecDepth 20000 in
theorem containsPlain_any (v : Value) (b : List UInt8) (w : World) (h : Bytes w v b) :
    Calls Tryz.prog 179 #[v, .func (.func 180) #[] #[]] w fun e w' => e = .returned (.bool (!(b.all (fun c => decide (c.toNat ≤ 127))))) ∧ w = w' := by
  have HI := Lib.hid (indexPlain_any v b w h)
  clear h
  go_enter Tryz.func179, Tryz.ntmps179
  go_wp2_with fail
  refine HI.out.mono ?_
  rintro e w1 ⟨⟨x, rfl, hx⟩, rfl⟩
  have HX := Lib.hid hx
  clear hx
  go_wp2_with fail
  go_ret
  exact ⟨by rw [← HX.out]; rfl, rfl⟩
set_option maxRecDepth 20000 in
theorem plain_any (v : Value) (b : List UInt8) (w : World) (h : Bytes w v b) :
    Calls Tryz.prog 139 #[v] w fun e w' => e = .returned (.bool (plainB b)) ∧ Fr (fun _ => False) w w' := by
  obtain ⟨a, cap, rfl, -⟩ := h.form
  have HC := Lib.hid (containsPlain_any _ b w h)
  clear h
  have hp : plainB b = (decide (0 < b.length) && b.all (fun c => decide (c.toNat ≤ 127))) := rfl
  have HP := Lib.hid hp
  clear hp
  by_cases h0 : 0 < b.length
  · have q1 : decide ((0 : Int) < (b.length : Int)) = true := decide_eq_true (by omega)
    have q2 : (0 : Int) < (b.length : Int) := by omega
    obtain ⟨d, hd⟩ : ∃ d, d = b.all (fun c => decide (c.toNat ≤ 127)) := ⟨_, rfl⟩
    rw [← hd] at HC HP
    rw [decide_eq_true h0, Bool.true_and] at HP
    clear hd
    cases d
    all_goals
      go_enter Tryz.func139, Tryz.ntmps139
      go_wp2_with fail
      refine HC.out.mono ?_
      rintro e w1 ⟨rfl, rfl⟩
      go_wp2_with fail
      go_ret
      exact ⟨by rw [HP.out]; rfl, Fr.refl _⟩
  · have q1 : decide ((0 : Int) < (b.length : Int)) = false := decide_eq_false (by omega)
    have q2 : ¬ (0 : Int) < (b.length : Int) := by omega
    rw [decide_eq_false h0, Bool.false_and] at HP
    go_enter Tryz.func139, Tryz.ntmps139
    go_wp2_with fail
    go_ret
    exact ⟨by rw [HP.out]; rfl, Fr.refl _⟩
set_option maxRecDepth 20000 in
set_option maxHeartbeats 1000000 in
theorem wholesG_any (v : Value) (l : List UInt8) (w : World) (h : Bytes w v l) (hl : l.length ≤ 1099511627776) :
    Calls Tryz.prog 141 #[v] w fun e w' => e = .returned (.bool (wholesB l)) ∧ Fr (fun _ => False) w w' := by
  have hN := Lib.hid (new_any w v l h hl)
  clear h
  go_enter Tryz.func141, Tryz.ntmps141
  go_wp2_with fail
  refine hN.out.mono ?_
  rintro e w1 ⟨rfl, C1, F1⟩
  have HC := Lib.hid C1
  have HF := Lib.hid F1
  obtain ⟨c, hc⟩ : ∃ c, c = w.heap.size := ⟨_, rfl⟩
  rw [← hc] at HC ⊢
  have HCC := Lib.hid hc
  clear C1 F1 hN hc
  go_wp2_with fail
  refine (wholes_any HC.out).mono ?_
  rintro e w2 ⟨hout, F2⟩
  rw [List.drop_zero] at hout
  have G2 := HF.out.trans' F2 (fun i hi e => absurd hi (by rw [e, HCC.out]; exact Nat.lt_irrefl _))
  unfold wholesOut at hout
  have HG := Lib.hid G2
  clear F2 G2 HF
  cases hr : allS l with
  | error x =>
    rw [hr] at hout
    subst hout
    have hx1 : (x == 0) = false := beq_eq_false_iff_ne.2 (allS_pos hr)
    have hs : wholesB l = false := by unfold wholesB; rw [hr]
    have HS := Lib.hid hs
    clear hs hr
    go_wp2_with fail
    go_ret
    exact ⟨by rw [HS.out]; rfl, HG.out⟩
  | ok ls =>
    rw [hr] at hout
    obtain ⟨a, cap, rfl⟩ := hout
    have hs : wholesB l = decide (0 < ls.length) := by unfold wholesB; rw [hr]
    clear hr
    generalize ls.length = n at *
    have HS := Lib.hid hs
    clear hs
    go_wp2_with fail
    go_ret
    exact ⟨by rw [HS.out]; rfl, HG.out⟩
set_option maxRecDepth 20000 in
set_option maxHeartbeats 1000000 in
theorem genCont_any (k : Int) (v : Value) (b : List UInt8) (w : World) (h : Bytes w v b) (hl : b.length ≤ 1099511627776) :
    Calls Tryz.prog 93 #[.int .i64 k, v] w fun e w' => e = .returned (.bool (contB k b)) ∧ Fr (fun _ => False) w w' := by
  have H := Lib.hid h
  obtain ⟨a, cap, rfl, -⟩ := h.form
  clear h
  have hk : (k = 1 ∨ k = 2 ∨ k = 6) ∨ k = 7 ∨ k = 8 ∨ (k = 0 ∨ k = 3 ∨ k = 5) ∨ ((k == 0) = false ∧ (k == 1) = false ∧ (k == 2) = false ∧ (k == 3) = false ∧ (k == 5) = false ∧ (k == 6) = false ∧ (k == 7) = false ∧ (k == 8) = false) := by
    simp only [beq_eq_false_iff_ne]
    omega
  rcases hk with hk | rfl | rfl | hk | ⟨h0, h1, h2, h3, h5, h6, h7, h8⟩
  · have HC := Lib.hid (show contB k b = plainB b from if_pos hk)
    rcases hk with rfl | rfl | rfl
    all_goals
      go_enter Tryz.func93, Tryz.ntmps93
      go_wp2_with fail
      refine (plain_any _ b w H.out).mono ?_
      rintro e w1 ⟨rfl, F1⟩
      go_wp2_with fail
      go_ret
      exact ⟨by rw [HC.out]; rfl, F1⟩
  · have HC := Lib.hid (show contB 7 b = decide (b.length = 4 ∨ b.length = 16) from rfl)
    rcases Nat.decEq b.length 4 with h4 | h4
    · have q1 : ((b.length : Int) == 4) = false := beq_eq_false_iff_ne.2 (by omega)
      have q2 : (b.length == 4) = false := beq_eq_false_iff_ne.2 h4
      rcases Nat.decEq b.length 16 with h16 | h16
      · have q3 : ((b.length : Int) == 16) = false := beq_eq_false_iff_ne.2 (by omega)
        have q4 : (b.length == 16) = false := beq_eq_false_iff_ne.2 h16
        go_enter Tryz.func93, Tryz.ntmps93
        go_wp2_with fail
        go_ret
        exact ⟨by rw [HC.out, decide_eq_false (by omega)]; rfl, Fr.refl _⟩
      · have q3 : ((b.length : Int) == 16) = true := by rw [h16]; rfl
        have q4 : (b.length == 16) = true := by rw [h16]; rfl
        go_enter Tryz.func93, Tryz.ntmps93
        go_wp2_with fail
        go_ret
        exact ⟨by rw [HC.out, decide_eq_true (by omega)]; rfl, Fr.refl _⟩
    · have q1 : ((b.length : Int) == 4) = true := by rw [h4]; rfl
      have q2 : (b.length == 4) = true := by rw [h4]; rfl
      go_enter Tryz.func93, Tryz.ntmps93
      go_wp2_with fail
      go_ret
      exact ⟨by rw [HC.out, decide_eq_true (by omega)]; rfl, Fr.refl _⟩
  · have HC := Lib.hid (show contB 8 b = oidB b from rfl)
    have HO := Lib.hid (oidParse_any _ b w H.out hl)
    go_enter Tryz.func93, Tryz.ntmps93
    go_wp2_with fail
    refine HO.out.mono ?_
    rintro e w1 ⟨hout, F1⟩
    have HF1 := Lib.hid F1
    clear F1 HO
    unfold oidParseOut at hout
    cases hr : oidParseS b with
    | error x =>
      rw [hr] at hout
      subst hout
      have hx1 : (x == 0) = false := beq_eq_false_iff_ne.2 (oidParse_nz hr)
      have HS := Lib.hid (show oidB b = false by unfold oidB; rw [hr])
      clear hr
      go_wp2_with fail
      go_ret
      exact ⟨by rw [HC.out, HS.out]; rfl, HF1.out⟩
    | ok o =>
      rw [hr] at hout
      obtain ⟨ao, co, rfl, -⟩ := hout
      have HS := Lib.hid (show oidB b = true by unfold oidB; rw [hr])
      clear hr
      go_wp2_with fail
      go_ret
      exact ⟨by rw [HC.out, HS.out]; rfl, HF1.out⟩
  · have HC := Lib.hid (show contB k b = wholesB b by
      unfold contB
      rw [if_neg (by omega), if_neg (by omega), if_neg (by omega), if_pos hk])
    rcases hk with rfl | rfl | rfl
    all_goals
      go_enter Tryz.func93, Tryz.ntmps93
      go_wp2_with fail
      refine (wholesG_any _ b w H.out hl).mono ?_
      rintro e w1 ⟨rfl, F1⟩
      go_wp2_with fail
      go_ret
      exact ⟨by rw [HC.out]; rfl, F1⟩
  · have HC := Lib.hid (show contB k b = false by
      simp only [beq_eq_false_iff_ne] at h0 h1 h2 h3 h5 h6 h7 h8
      unfold contB
      rw [if_neg (by omega), if_neg (by omega), if_neg (by omega), if_neg (by omega)])
    go_enter Tryz.func93, Tryz.ntmps93
    go_wp2_with fail
    go_ret
    exact ⟨by rw [HC.out]; rfl, Fr.refl _⟩
end Go.Proofs.YtacekpdjapgfcaaGreatDoor

namespace Go.Proofs.YtacekpdjapgfcaaGreatDoor
open Go Go.RowKit Go.Q
set_option linter.unusedSimpArgs false
set_option maxRecDepth 20000 in
set_option maxHeartbeats 2000000 in
theorem genRight_any (u : Value) (g : Gen) (w : World) (h : GenAt w u g) (hf : fewG g) :
    Calls Tryz.prog 43 #[u] w fun e w' => e = .returned (.bool (genOk g)) ∧ Fr (fun _ => False) w w' := by
  obtain ⟨ab, cb, an, cn, rfl, hb, hn⟩ := h.form
  obtain ⟨k, b, n⟩ := g
  obtain ⟨f1, f2⟩ := hf
  simp only at hb hn f1 f2 ⊢
  have F0 : Fr (fun _ => False) w (w.alloc (.cells #[.int .i64 k, .slice ab b.length cb, .slice an n.length cn] 42)) := (Fr.refl w).alloc _
  have B := Blk.new w 42 #[.int .i64 k, .slice ab b.length cb, .slice an n.length cn]
  obtain ⟨z, hz⟩ : ∃ z, z = w.heap.size := ⟨_, rfl⟩
  rw [← hz] at B
  have HZ := Lib.hid hz
  have HB := Lib.hid (hb.old F0)
  have HN := Lib.hid (hn.old F0)
  have HF0 := Lib.hid F0
  have HF2 := Lib.hid f2
  have hg : genOk ⟨k, b, n⟩ = if k = 4 then decide (b.length = 0) && nameOk n else decide (n.length = 0) && contB k b := rfl
  have HG := Lib.hid hg
  clear h hb hn hz F0 f2 hg
  go_enter Tryz.func43, Tryz.ntmps43
  go_upto_region 1 with fail
  rw [← HZ.out]
  generalize (w.alloc (.cells #[.int .i64 k, .slice ab b.length cb, .slice an n.length cn] 42)) = w0 at *
  have e0 := B.cell 0
  have e1 := B.cell 1
  have e2 := B.cell 2
  simp only [List.getElem?_toArray, List.getElem?_cons_succ, List.getElem?_cons_zero] at e0 e1 e2
  by_cases h4 : k = 4
  · subst h4
    rw [if_pos rfl] at HG
    by_cases h0 : b.length = 0
    · have q1 : ((b.length : Int) == 0) = true := by rw [h0]; rfl
      have q2 : (b.length == 0) = true := by rw [h0]; rfl
      rw [decide_eq_true h0, Bool.true_and] at HG
      have HR := Lib.hid (right_any _ n w0 HN.out HF2.out)
      clear h0
      go_wp2_with fail
      refine HR.out.mono ?_
      rintro e w1 ⟨rfl, F1⟩
      go_wp2_with fail
      go_ret
      exact ⟨by rw [HG.out]; rfl, HF0.out.trans F1⟩
    · have q1 : ((b.length : Int) == 0) = false := beq_eq_false_iff_ne.2 (by omega)
      have q2 : (b.length == 0) = false := beq_eq_false_iff_ne.2 (by omega)
      rw [decide_eq_false h0, Bool.false_and] at HG
      go_wp2_with fail
      go_ret
      exact ⟨by rw [HG.out]; rfl, HF0.out⟩
  · have k4 : (k == 4) = false := beq_eq_false_iff_ne.2 h4
    rw [if_neg h4] at HG
    by_cases h0 : n.length = 0
    · have q1 : ((n.length : Int) == 0) = true := by rw [h0]; rfl
      have q2 : (n.length == 0) = true := by rw [h0]; rfl
      rw [decide_eq_true h0, Bool.true_and] at HG
      have HC := Lib.hid (genCont_any k _ b w0 HB.out (by omega))
      clear h0
      go_wp2_with fail
      refine HC.out.mono ?_
      rintro e w1 ⟨rfl, F1⟩
      go_wp2_with fail
      go_ret
      exact ⟨by rw [HG.out]; rfl, HF0.out.trans F1⟩
    · have q1 : ((n.length : Int) == 0) = false := beq_eq_false_iff_ne.2 (by omega)
      have q2 : (n.length == 0) = false := beq_eq_false_iff_ne.2 (by omega)
      rw [decide_eq_false h0, Bool.false_and] at HG
      go_wp2_with fail
      go_ret
      exact ⟨by rw [HG.out]; rfl, HF0.out⟩
end Go.Proofs.YtacekpdjapgfcaaGreatDoor

namespace Go.Q
open Go Go.RowKit
abbrev oneN (o : List Int) (v : List UInt8) : List (List Part) := [[⟨o, v⟩]]
end Go.Q

namespace Go.Q
open Go Go.RowKit
def knT1 : List UInt8 := [50, 46, 53, 46, 52, 46, 51, 61, 67, 65]
def knT2 : List UInt8 := [50, 46, 53, 46, 52, 46, 49, 48, 61, 32, 70, 111, 111, 32, 32, 66, 97, 114, 32]
def knT3 : List UInt8 := [50, 46, 53, 46, 52, 46, 51, 61, 99, 97]
def knT4 : List UInt8 := [50, 46, 53, 46, 52, 46, 49, 48, 61, 102, 111, 111, 32, 98, 97, 114]
def knV1 : List UInt8 := wrapS (tagOf 19) ([67, 65])
def knV2 : List UInt8 := wrapS (tagOf 19) ([32, 70, 111, 111, 32, 32, 66, 97, 114, 32])
def knV3 : List UInt8 := wrapS (tagOf 19) ([99, 97])
def knV4 : List UInt8 := wrapS (tagOf 19) ([102, 111, 111, 32, 98, 97, 114])
def knA : List (List Part) := [[⟨[2, 5, 4, 3], knV1⟩], [⟨[2, 5, 4, 10], knV2⟩]]
def knB : List (List Part) := [[⟨[2, 5, 4, 3], knV3⟩], [⟨[2, 5, 4, 10], knV4⟩]]
theorem NameAt.take {w : World} {a : Option Addr} {m cap : Nat} {n : List (List Part)} (h : NameAt w (.slice a m cap) n) (k : Nat) (hk : k ≤ n.length) (cap' : Nat) (hc : k ≤ cap') (hm : cap' ≤ maxLen) : NameAt w (.slice a k cap') (n.take k) := by
  obtain ⟨a0, cap0, he, h1, h2, h3⟩ := h
  simp only [Value.slice.injEq] at he
  obtain ⟨rfl, rfl, rfl⟩ := he
  have hl : (n.take k).length = k := by rw [List.length_take]; omega
  refine ⟨a, cap', by rw [hl], by omega, hm, fun h0 => ?_⟩
  obtain ⟨b, o, rfl, hy⟩ := h3 (by omega)
  refine ⟨b, o, rfl, fun i r hr => hy i r ?_⟩
  rw [List.getElem?_take] at hr
  split at hr
  · exact hr
  · cases hr
end Go.Q

namespace Go.Proofs.YtacekpdjapgfcaaGreatDoor
open Go Go.RowKit Go.Q
end Go.Proofs.YtacekpdjapgfcaaGreatDoor

namespace Go.Q
open Go Go.RowKit
theorem cutName_200 (n : List (List Part)) : ∀ r ∈ cutName n, ∀ p ∈ r, p.b.length ≤ 200 := fun r hr p hp => by
  obtain ⟨q, -, rfl⟩ := List.mem_map.1 hr
  obtain ⟨s, -, rfl⟩ := List.mem_map.1 hp
  show (s.b.take 200).length ≤ 200
  rw [List.length_take]
  omega
theorem whole_part {n : List (List Part)} (h : nameOk n = true) {m : Nat} (hm : (nameWhole n).length ≤ m) : (wholesN n).flatten.length ≤ m ∧ ∀ r ∈ n, ∀ p ∈ r, p.b.length ≤ m := by
  obtain ⟨h1, h2⟩ := name_rdns h
  have h3 : (wholesN n).flatten.length ≤ m := by
    unfold nameWhole at hm
    rw [wrap_len] at hm
    omega
  refine ⟨h3, fun r hr p hp => ?_⟩
  obtain ⟨ws, hws⟩ := Option.isSome_iff_exists.1 (h2 r hr)
  have hmem : rdnWhole ws ∈ wholesN n := by
    unfold wholesN
    rw [List.mem_map]
    exact ⟨r, hr, by rw [hws]; rfl⟩
  have h4 := mem_flat hmem
  obtain ⟨-, -, hg⟩ := rdn_get hws
  obtain ⟨i, hi⟩ := List.mem_iff_getElem?.1 hp
  obtain ⟨x, hx, ha⟩ := hg i p hi
  have h5 := mem_flat (List.mem_of_getElem? hx)
  have h6 : ws.flatten.length ≤ (rdnWhole ws).length := by
    unfold rdnWhole
    rw [wrap_len]
    omega
  have h7 : p.b.length ≤ x.length := by
    unfold attrS at ha
    split at ha
    · simp only [Option.some.injEq] at ha
      subst ha
      rw [wrap_len, List.length_append]
      omega
    · cases ha
  omega
end Go.Q
namespace Go.Proofs.YtacekpdjapgfcaaGreatDoor
open Go Go.RowKit Go.Q
set_option linter.unusedSimpArgs false
end Go.Proofs.YtacekpdjapgfcaaGreatDoor

namespace Go.Q
open Go Go.RowKit
theorem nameParse_few {l : List UInt8} {n : List (List Part)} (h : nameParseS l = .ok n) (hl : l.length ≤ 10000000) : nameOk n = true ∧ ∀ r ∈ n, fewB r := by
  obtain ⟨h1, h2⟩ := nameParse_back h
  obtain ⟨-, h3⟩ := whole_part h1 (m := 10000000) (by rw [h2]; exact hl)
  exact ⟨h1, h3⟩
end Go.Q
namespace Go.Proofs.YtacekpdjapgfcaaGreatDoor
open Go Go.RowKit Go.Q
set_option linter.unusedSimpArgs false
def genOut (w w' : World) (c : Nat) (K : Nat → Prop) (bs : List UInt8) (p : Nat) (r : Except Int (Gen × Nat)) (e : Ending) : Prop :=
  match r with
  | .ok (g, m) => ∃ ab cb an cn, e = .returned (.tuple #[.agg #[.int .i64 g.k, .slice ab g.b.length cb, .slice an g.n.length cn], .int .i64 0]) ∧ Kept (fun W => Bytes W (.slice ab g.b.length cb) g.b ∧ NameAt W (.slice an g.n.length cn) g.n) (fun k => k < w.heap.size) w' ∧ CurAt w' c K bs (p + m)
  | .error x => e = .returned (.tuple #[.agg #[.int .i64 0, .slice none 0 0, .slice none 0 0], .int .i64 x]) ∧ x ≠ 0 ∧ ∃ q, p ≤ q ∧ CurAt w' c K bs q
theorem bytes_nil (K : Nat → Prop) (w : World) : Kept (fun W => Bytes W (.slice none 0 0) []) K w := fun W _ => Vals.nil W
theorem name_nil (K : Nat → Prop) (w : World) : Kept (fun W => NameAt W (.slice none 0 0) []) K w := fun _ _ => ⟨none, 0, rfl, Nat.le_refl _, Nat.zero_le _, fun h => absurd h (Nat.lt_irrefl _)⟩
set_option maxRecDepth 20000 in
set_option maxHeartbeats 8000000 in
theorem genR_any {w : World} {c : Nat} {K : Nat → Prop} {bs : List UInt8} {p : Nat} (h : CurAt w c K bs p) (hbs : bs.length ≤ 10000000) :
    Calls Tryz.prog 72 #[pt c] w fun e w' => genOut w w' c K bs p (genReadS (bs.drop p)) e ∧ Fr (fun k => k = c) w w' := by
  have hcl := h.lt
  obtain ⟨z, hz⟩ : ∃ z, z = w.heap.size := ⟨_, rfl⟩
  have F0 : Fr (fun _ => False) w (w.alloc (.cells #[.int .i64 0, .slice none 0 0, .slice none 0 0] 42)) := (Fr.refl w).alloc _
  have B0 := Blk.new w 42 #[.int .i64 0, .slice none 0 0, .slice none 0 0]
  have H := Lib.hid (h.step (K' := fun k => K k ∨ w.heap.size ≤ k) F0 (fun _ _ h => h.elim) (fun _ h => h))
  rw [← hz] at B0
  have hzc : z ≠ c := by omega
  have HZ := Lib.hid hz
  clear h hz
  go_enter Tryz.func72, Tryz.ntmps72
  go_upto_region 1 with fail
  rw [← HZ.out]
  generalize (w.alloc (.cells #[.int .i64 0, .slice none 0 0, .slice none 0 0] 42)) = w0 at *
  have HB0 := Lib.hid B0
  have HF0 := Lib.hid (F0.mono (T := fun k => k = c) (fun _ _ h => h.elim))
  have hs0 := F0.size
  have HRD := Lib.hid (headRead_any H.out)
  clear F0 B0 H
  go_wp2_with fail
  refine HRD.out.mono ?_
  rintro e w1 ⟨⟨⟨tc, tn, tm⟩, n, x, rfl, ht⟩, C1, F1⟩
  rw [show tagV ⟨tc, tn, tm⟩ = .agg #[.int .i64 tc, .int .i64 tn, .bool tm] from rfl]
  obtain ⟨y, hy⟩ : ∃ y, y = w1.heap.size := ⟨_, rfl⟩
  have F2 : Fr (fun _ => False) w1 (w1.alloc (.cells #[.int .i64 tc, .int .i64 tn, .bool tm] 97)) := (Fr.refl w1).alloc _
  have BZ := (HB0.out.fr F1 hzc).fr F2 (fun h => h)
  have BY := Blk.new w1 97 #[.int .i64 tc, .int .i64 tn, .bool tm]
  rw [← hy] at BY
  have hs1 := F1.size
  have hzy : z ≠ y := by have := (HB0.out.fr F1 hzc).lt; omega
  have hyw : w.heap.size ≤ y := by omega
  have hyc : y ≠ c := by omega
  have HC2 := Lib.hid (C1.old F2)
  have HF2 := Lib.hid ((HF0.out.trans F1).trans (F2.mono (T := fun k => k = c) (fun _ _ h => h.elim)))
  have HT := Lib.hid ht
  have hs2 := F2.size
  clear C1 F1 F2 ht HRD HF0 HB0
  go_upto_region 2 with fail
  rw [← hy]
  have HY := Lib.hid hy
  clear hy
  generalize (w1.alloc (.cells #[.int .i64 tc, .int .i64 tn, .bool tm] 97)) = w2 at *
  have HBZ := Lib.hid BZ
  have HBY := Lib.hid BY
  clear BZ BY
  have endK : ∀ (W : World) (q : Nat), CurAt W c (fun k => K k ∨ w.heap.size ≤ k) bs q → CurAt W c K bs q := fun W q C => C.step (K' := K) (Fr.refl W) (S := fun _ => False) (fun _ _ h => h.elim) (fun k hk => .inl (.inl hk))
  have EK := Lib.hid endK
  clear endK
  have errs : ∀ (W : World) (x : Int) (q : Nat), Blk W z 42 #[.int .i64 0, .slice none 0 0, .slice none 0 0] → CurAt W c (fun k => K k ∨ w.heap.size ≤ k) bs q → p ≤ q → Fr (fun k => k = c) w W → x ≠ 0 → genReadS (bs.drop p) = .error x →
      ∃ W', W' = (((W.setCell ⟨z, 0, none⟩ (.int .i64 0)).setCell ⟨z, 1, none⟩ (.slice none 0 0)).setCell ⟨z, 2, none⟩ (.slice none 0 0)) ∧ Blk W' z 42 #[.int .i64 0, .slice none 0 0, .slice none 0 0] ∧ genOut w W' c K bs p (genReadS (bs.drop p)) (.returned (.tuple #[.agg #[.int .i64 0, .slice none 0 0, .slice none 0 0], .int .i64 x])) ∧ Fr (fun k => k = c) w W' := by
    intro W x q B C hq F hx hr
    obtain ⟨B5, F5⟩ := set3 B (.int .i64 0) (.slice none 0 0) (.slice none 0 0)
    refine ⟨_, rfl, B5, ?_, F.trans' F5 (fun i hi e => by have := HZ.out; omega)⟩
    rw [hr]
    exact ⟨rfl, hx, q, hq, EK.out _ _ (C.step (K' := fun k => K k ∨ w.heap.size ≤ k) F5 (fun k _ e => .inr (by have := HZ.out; omega)) (fun _ h => .inl h))⟩
  have ERR := Lib.hid errs
  clear errs
  cases hr : readS (bs.drop p) with
  | error e0 =>
    have ht := HT.out
    have hc := HC2.out
    rw [hr] at ht hc
    have hx : x = e0 := ht
    subst hx
    have hx0 := readS_err hr
    have hx1 : (x == 0) = false := beq_eq_false_iff_ne.2 hx0
    have hx2 : (x != 0) = true := by simpa using hx0
    obtain ⟨W', hW, B5, ho, F5⟩ := ERR.out w2 x p HBZ.out hc (Nat.le_refl _) HF2.out hx0 (genRead_err hr)
    have z0 := HBZ.out.cell 0
    have z1 := HBZ.out.cell 1
    have z2 := HBZ.out.cell 2
    have f0 := HBZ.out.frozen 0
    have f1 := HBZ.out.frozen 1
    have f2 := HBZ.out.frozen 2
    subst hW
    have n0 := B5.cell 0
    have n1 := B5.cell 1
    have n2 := B5.cell 2
    simp only [List.getElem?_toArray, List.getElem?_cons_succ, List.getElem?_cons_zero] at z0 z1 z2 n0 n1 n2
    have HO := Lib.hid (And.intro ho F5)
    clear hr hc hx0 B5 ho F5 HT HC2
    go_wp2_with fail
    exact bodyPost_ret (v := .tuple #[.agg #[.int .i64 0, .slice none 0 0, .slice none 0 0], .int .i64 x]) (by simp [results, Tryz.results72, go_sem, n0, n1, n2]) rfl HO.out
  | ok tnk =>
    obtain ⟨t, n', k⟩ := tnk
    have ht := HT.out
    have hc := HC2.out
    rw [hr] at ht hc
    obtain ⟨rfl, rfl, rfl⟩ : ⟨tc, tn, tm⟩ = t ∧ n = n' ∧ x = 0 := ht
    replace hc : CurAt w2 c (fun k => K k ∨ w.heap.size ≤ k) bs (p + k) := hc
    have hkl := readS_le hr
    rw [List.length_drop] at hkl
    have HC2 := Lib.hid hc
    have HR := Lib.hid hr
    have hn16 := hkl.2
    have hk1 := hkl.1
    clear hc HT hr hkl
    obtain ⟨mk, hmk⟩ : ∃ mk, mk = madeG tn := ⟨_, rfl⟩
    have HMK := Lib.hid hmk
    have HMD := Lib.hid (fun w => made_any tn w)
    rw [← hmk] at HMD
    clear hmk
    have e0 := HBY.out.cell 0
    have e1 := HBY.out.cell 1
    have e2 := HBY.out.cell 2
    simp only [List.getElem?_toArray, List.getElem?_cons_succ, List.getElem?_cons_zero] at e0 e1 e2
    by_cases hbad : tc ≠ 2 ∨ 8 < tn ∨ tm ≠ mk
    · have hbad2 : tc ≠ 2 ∨ 8 < tn ∨ tm ≠ madeG tn := by rw [← HMK.out]; exact hbad
      have herr := genRead_tag HR.out hbad2
      have HERR := Lib.hid herr
      have hthree : ((tc == 2) = false ∧ (tc != 2) = true) ∨ (tc = 2 ∧ (8 : Int) < tn) ∨ (tc = 2 ∧ ¬ (8 : Int) < tn ∧ tm ≠ mk) := by
        by_cases h2 : tc = 2
        · by_cases h8 : 8 < tn
          · exact .inr (.inl ⟨h2, h8⟩)
          · exact .inr (.inr ⟨h2, h8, by rcases hbad with h | h | h; exact absurd h2 h; exact absurd h h8; exact h⟩)
        · exact .inl ⟨beq_eq_false_iff_ne.2 h2, by simpa using h2⟩
      clear herr hbad hbad2
      rcases hthree with ⟨h1, h2⟩ | ⟨rfl, h2⟩ | ⟨rfl, h2, h3⟩
      case' inr.inr =>
        have h4 : (tm == mk) = false := by cases tm <;> cases mk <;> simp_all
        have h5 : (tm != mk) = true := by cases tm <;> cases mk <;> simp_all
      all_goals
        go_upto_region 4 with fail
        go_quiet ((go_at_call 120; exact Calls.quiet_of_same ((HMD.out _).mono (fun _ _ ⟨h1, h2⟩ => ⟨h1, h2.symm⟩))))
        have FQ : Fr (fun _ => False) w2 (w2.drewN nq) := (Fr.refl w2).drewN nq
        obtain ⟨W', hW, B5, ho, F5⟩ := ERR.out (w2.drewN nq) 4 (p + k) (HBZ.out.fr FQ (fun h => h)) (HC2.out.old FQ) (Nat.le_add_right _ _) (HF2.out.trans (FQ.mono (fun _ _ h => h.elim))) (by decide) HERR.out
        have BQ := HBZ.out.fr FQ (fun h => h)
        have z0 := BQ.cell 0
        have z1 := BQ.cell 1
        have z2 := BQ.cell 2
        have f0 := BQ.frozen 0
        have f1 := BQ.frozen 1
        have f2 := BQ.frozen 2
        subst hW
        have n0 := B5.cell 0
        have n1 := B5.cell 1
        have n2 := B5.cell 2
        simp only [List.getElem?_toArray, List.getElem?_cons_succ, List.getElem?_cons_zero] at z0 z1 z2 n0 n1 n2
        have HO := Lib.hid (And.intro ho F5)
        clear B5 ho F5 BQ FQ
        go_wp2_with fail
        exact bodyPost_ret (v := .tuple #[.agg #[.int .i64 0, .slice none 0 0, .slice none 0 0], .int .i64 4]) (by simp [results, Tryz.results72, go_sem, n0, n1, n2]) rfl HO.out
    · obtain ⟨rfl, h8, rfl⟩ : tc = 2 ∧ ¬ (8 : Int) < tn ∧ tm = mk := ⟨Classical.byContradiction fun h => hbad (.inl h), fun h => hbad (.inr (.inl h)), Classical.byContradiction fun h => hbad (.inr (.inr h))⟩
      have hgood : ¬ ((2 : Int) ≠ 2 ∨ 8 < tn ∨ tm ≠ madeG tn) := by
        rintro (h | h | h)
        · exact h rfl
        · exact h8 h
        · exact h HMK.out
      have HGD := Lib.hid hgood
      have h4 : (tm == tm) = true := by cases tm <;> rfl
      have h5 : (tm != tm) = false := by cases tm <;> rfl
      clear hbad hgood
      go_upto_region 4 with fail
      go_quiet ((go_at_call 120; exact Calls.quiet_of_same ((HMD.out _).mono (fun _ _ ⟨h1, h2⟩ => ⟨h1, h2.symm⟩))))
      have FQ : Fr (fun _ => False) w2 (w2.drewN nq) := (Fr.refl w2).drewN nq
      have HBZ2 := Lib.hid (HBZ.out.fr FQ (fun h => h))
      have HBY2 := Lib.hid (HBY.out.fr FQ (fun h => h))
      have HC3 := Lib.hid (HC2.out.old FQ)
      have HF3 := Lib.hid (HF2.out.trans (FQ.mono (T := fun k => k = c) (fun _ _ h => h.elim)))
      have hs3 := FQ.size
      clear FQ HBZ HBY HC2 HF2 e0 e1 e2
      generalize w2.drewN nq = w3 at *
      by_cases hn : n ≤ bs.length - (p + k)
      · have HTK := Lib.hid (take_ok HC3.out n hn)
        obtain ⟨l, hl⟩ : ∃ l, l = (bs.drop (p + k)).take n := ⟨_, rfl⟩
        have hll : l.length = n := by rw [hl, List.length_take, List.length_drop]; omega
        have hl2 : ((bs.drop p).drop k).take n = l := by rw [hl, List.drop_drop]
        rw [← hl] at HTK
        have hend : ¬ (bs.drop p).length - k < n := by rw [List.length_drop]; omega
        have HEND := Lib.hid hend
        have HL2 := Lib.hid hl2
        have HLL := Lib.hid hll
        clear hl hl2 hll hend
        go_wp2_with fail
        refine HTK.out.mono ?_
        rintro e w4 ⟨v, rfl, ho, C4, F4⟩
        have hvl := (Vals.of_own ho).2
        have hkb : Kept (fun W => Bytes W v l) (fun k => k < w3.heap.size) w4 := own_kept ho _ (fun k hk => hk)
        obtain ⟨av, m, cv, rfl, hmn⟩ := own_shape ho
        have hmn2 : n = m := by omega
        subst hmn2
        clear hmn
        have HKB := Lib.hid hkb
        have HVL := Lib.hid hvl
        have hb4 := (Vals.of_own ho).1
        have hs4 := F4.size
        have BZ4 := HBZ2.out.fr F4 hzc
        have BY4 := HBY2.out.fr F4 hyc
        obtain ⟨x8, hx8⟩ : ∃ x8, x8 = w4.heap.size := ⟨_, rfl⟩
        have F5 : Fr (fun _ => False) w4 (w4.alloc (.cells #[.int .i64 tn, .slice av n cv, .slice none 0 0] 42)) := (Fr.refl w4).alloc _
        have HBX := Lib.hid (Blk.new w4 42 #[.int .i64 tn, .slice av n cv, .slice none 0 0])
        rw [← hx8] at HBX
        have hxz : z ≠ x8 := by have := BZ4.lt; omega
        have hxc : x8 ≠ c := by have := C4.lt; omega
        have hxw : w.heap.size ≤ x8 := by omega
        have HBZ5 := Lib.hid (BZ4.fr F5 (fun h => h))
        have HC5 := Lib.hid (C4.old F5)
        have HF5 := Lib.hid ((HF3.out.trans F4).trans (F5.mono (T := fun k => k = c) (fun _ _ h => h.elim)))
        have HKB5 := Lib.hid (HKB.out.old F5)
        have HB5 := Lib.hid (hb4.old F5)
        have hz3 : z < w3.heap.size := HBZ2.out.lt
        have e1 := BY4.cell 1
        simp only [List.getElem?_toArray, List.getElem?_cons_succ, List.getElem?_cons_zero] at e1
        have hs5 := F5.size
        clear ho C4 F4 F5 BZ4 BY4 hkb hvl hb4 HTK HC3 HF3 HBZ2 HBY2 HKB
        go_upto_region 10 with fail
        rw [← hx8]
        have HX8 := Lib.hid hx8
        clear hx8 e1
        generalize (w4.alloc (.cells #[.int .i64 tn, .slice av n cv, .slice none 0 0] 42)) = w5 at *
        by_cases h4n : tn = 4
        · subst h4n
          have HGR := Lib.hid (genRead_dir HR.out HGD.out HEND.out rfl)
          rw [HL2.out] at HGR
          have x0 := HBX.out.cell 0
          have x1 := HBX.out.cell 1
          have g1 := HBX.out.frozen 1
          simp only [List.getElem?_toArray, List.getElem?_cons_succ, List.getElem?_cons_zero] at x0 x1
          have B6 : Blk (w5.setCell ⟨x8, 1, none⟩ (.slice none 0 0)) x8 42 #[.int .i64 4, .slice none 0 0, .slice none 0 0] := by
            have := HBX.out.set 1 (.slice none 0 0)
            simpa using this
          have F6 : Fr (fun k => k = x8) w5 (w5.setCell ⟨x8, 1, none⟩ (.slice none 0 0)) := Fr.setCell (S := fun k => k = x8) (p := ⟨x8, 1, none⟩) (Fr.refl w5) (fun _ => rfl) _
          have HB6 := Lib.hid B6
          have HBZ6 := Lib.hid (HBZ5.out.fr F6 hxz)
          have HC6 := Lib.hid (HC5.out.step (K' := fun k => K k ∨ w.heap.size ≤ k) F6 (fun k _ e => .inr (by omega)) (fun _ h => .inl h))
          have HF6 := Lib.hid (HF5.out.trans' F6 (fun i hi e => absurd hi (by omega)))
          have hs6 := F6.size
          have HXL := Lib.hid (show x8 < (w5.setCell ⟨x8, 1, none⟩ (.slice none 0 0)).heap.size from B6.lt)
          have hb6 := HB5.out.fr F6 (fun _ k hk e => by have := HVL.out k hk; have := HX8.out; omega)
          have HPA := Lib.hid (nameParse_any _ l _ hb6 (by have := HLL.out; omega))
          clear B6 F6 HC5 HF5 HBZ5 HBX hb6 HB5 HKB5
          go_wp2_with fail
          refine HPA.out.mono ?_
          rintro e w7 ⟨hout, F7⟩
          have hs7 := F7.size
          have HB7 := HB6.out.fr F7 (fun h => h)
          have HBZ7 := Lib.hid (HBZ6.out.fr F7 (fun h => h))
          have HC7 := Lib.hid (HC6.out.old F7)
          have HF7 := Lib.hid (HF6.out.trans (F7.mono (T := fun k => k = c) (fun _ _ h => h.elim)))
          clear F7 HPA HB6 HBZ6 HC6 HF6 x0 x1 g1
          unfold nameParseOut at hout
          cases hq : nameParseS l with
          | error x =>
            rw [hq] at hout HGR
            obtain ⟨rfl, hx⟩ := hout
            have hx1 : (x == 0) = false := beq_eq_false_iff_ne.2 hx
            have hx2 : (x != 0) = true := by simpa using hx
            have B8 : Blk (w7.setCell ⟨x8, 2, none⟩ (.slice none 0 0)) x8 42 #[.int .i64 4, .slice none 0 0, .slice none 0 0] := by
              have := HB7.set 2 (.slice none 0 0)
              simpa using this
            have F8 : Fr (fun k => k = x8) w7 (w7.setCell ⟨x8, 2, none⟩ (.slice none 0 0)) := Fr.setCell (S := fun k => k = x8) (p := ⟨x8, 2, none⟩) (Fr.refl w7) (fun _ => rfl) _
            have HBZ8 := Lib.hid (HBZ7.out.fr F8 hxz)
            have HC8 := Lib.hid (HC7.out.step (K' := fun k => K k ∨ w.heap.size ≤ k) F8 (fun k _ e => .inr (by omega)) (fun _ h => .inl h))
            have HF8 := Lib.hid (HF7.out.trans' F8 (fun i hi e => absurd hi (by omega)))
            have x2 := HB7.cell 2
            have g2 := HB7.frozen 2
            simp only [List.getElem?_toArray, List.getElem?_cons_succ, List.getElem?_cons_zero] at x2
            have HX := Lib.hid hx
            clear B8 F8 HB7 HBZ7 HC7 HF7 hq hx
            go_upto_region 13 with fail
            generalize (w7.setCell ⟨x8, 2, none⟩ (.slice none 0 0)) = w8 at *
            obtain ⟨W', hW, B5, ho, F5⟩ := ERR.out w8 x (p + k + n) HBZ8.out HC8.out (by omega) HF8.out HX.out HGR.out
            have z0 := HBZ8.out.cell 0
            have z1 := HBZ8.out.cell 1
            have z2 := HBZ8.out.cell 2
            have f0 := HBZ8.out.frozen 0
            have f1 := HBZ8.out.frozen 1
            have f2 := HBZ8.out.frozen 2
            subst hW
            have n0 := B5.cell 0
            have n1 := B5.cell 1
            have n2 := B5.cell 2
            simp only [List.getElem?_toArray, List.getElem?_cons_succ, List.getElem?_cons_zero] at z0 z1 z2 n0 n1 n2
            have HO := Lib.hid (And.intro ho F5)
            clear B5 ho F5 x2 g2
            go_wp2_with fail
            exact bodyPost_ret (v := .tuple #[.agg #[.int .i64 0, .slice none 0 0, .slice none 0 0], .int .i64 x]) (by simp [results, Tryz.results72, go_sem, n0, n1, n2]) rfl HO.out
          | ok nm =>
            rw [hq] at hout HGR
            obtain ⟨am, cm, rfl, hkn⟩ := hout
            obtain ⟨hok, hfew⟩ := nameParse_few hq (by have := HLL.out; omega)
            have B8 : Blk (w7.setCell ⟨x8, 2, none⟩ (.slice am nm.length cm)) x8 42 #[.int .i64 4, .slice none 0 0, .slice am nm.length cm] := by
              have := HB7.set 2 (.slice am nm.length cm)
              simpa using this
            have F8 : Fr (fun k => k = x8) w7 (w7.setCell ⟨x8, 2, none⟩ (.slice am nm.length cm)) := Fr.setCell (S := fun k => k = x8) (p := ⟨x8, 2, none⟩) (Fr.refl w7) (fun _ => rfl) _
            have HBZ8 := Lib.hid (HBZ7.out.fr F8 hxz)
            have HB8 := Lib.hid B8
            have HC8 := Lib.hid (HC7.out.step (K' := fun k => K k ∨ w.heap.size ≤ k) F8 (fun k _ e => .inr (by omega)) (fun _ h => .inl h))
            have HF8 := Lib.hid (HF7.out.trans' F8 (fun i hi e => absurd hi (by omega)))
            have hx6 := HX8.out
            have HK8 := Lib.hid (hkn.step (K' := fun k => k < w3.heap.size) F8 (fun k _ e => by rw [e]; exact HXL.out) (fun k hk => .inl (by omega)))
            have HGT := Lib.hid (genRight_any (.agg #[.int .i64 4, .slice none 0 0, .slice am nm.length cm]) ⟨4, [], nm⟩ _ ⟨_, _, rfl, Vals.nil _, HK8.out.now⟩ ⟨by simp, hfew⟩)
            have hgok : genOk ⟨4, [], nm⟩ = true := by simp [genOk, hok]
            rw [hgok] at HGT
            have x2 := HB7.cell 2
            have g2 := HB7.frozen 2
            simp only [List.getElem?_toArray, List.getElem?_cons_succ, List.getElem?_cons_zero] at x2
            clear B8 F8 HB7 HBZ7 HC7 HF7 hq hkn hok hfew hgok hx6
            go_upto_region 13 with fail
            generalize (w7.setCell ⟨x8, 2, none⟩ (.slice am nm.length cm)) = w8 at *
            have y0 := HB8.out.cell 0
            have y1 := HB8.out.cell 1
            have y2 := HB8.out.cell 2
            simp only [List.getElem?_toArray, List.getElem?_cons_succ, List.getElem?_cons_zero] at y0 y1 y2
            clear x2 g2
            go_wp2_with fail
            refine HGT.out.mono ?_
            rintro e w9 ⟨rfl, F9⟩
            have BX9 := HB8.out.fr F9 (fun h => h)
            have BZ9 := HBZ8.out.fr F9 (fun h => h)
            clear y0 y1 y2
            have y0 := BX9.cell 0
            have y1 := BX9.cell 1
            have y2 := BX9.cell 2
            have z0 := BZ9.cell 0
            have z1 := BZ9.cell 1
            have z2 := BZ9.cell 2
            have f0 := BZ9.frozen 0
            have f1 := BZ9.frozen 1
            have f2 := BZ9.frozen 2
            obtain ⟨B5, F5⟩ := set3 BZ9 (.int .i64 4) (.slice none 0 0) (.slice am nm.length cm)
            have n0 := B5.cell 0
            have n1 := B5.cell 1
            have n2 := B5.cell 2
            simp only [List.getElem?_toArray, List.getElem?_cons_succ, List.getElem?_cons_zero] at y0 y1 y2 z0 z1 z2 n0 n1 n2
            have HF5 := Lib.hid ((HF8.out.trans (F9.mono (T := fun k => k = c) (fun _ _ h => h.elim))).trans' F5 (fun i hi e => by have := HZ.out; omega))
            have HC5 := Lib.hid (EK.out _ _ ((HC8.out.old F9).step (K' := fun k => K k ∨ w.heap.size ≤ k) F5 (fun k _ e => .inr (by have := HZ.out; omega)) (fun _ h => .inl h)))
            have HK5 := Lib.hid ((HK8.out.old F9).step (K' := fun k => k < w.heap.size) F5 (fun k _ e => by omega) (fun k hk => .inl (by omega)))
            clear B5 F5 BZ9 BX9 F9 HGT HK8 HC8 HF8
            go_wp2_with fail
            refine bodyPost_ret (v := .tuple #[.agg #[.int .i64 4, .slice none 0 0, .slice am nm.length cm], .int .i64 0]) (by simp [results, Tryz.results72, go_sem, n0, n1, n2]) rfl ⟨?_, HF5.out⟩
            rw [HGR.out]
            exact ⟨none, 0, am, cm, rfl, fun W f => ⟨Vals.nil W, HK5.out W f⟩, by rw [show p + (k + n) = p + k + n by omega]; exact HC5.out⟩
        · have k4 : (tn == 4) = false := beq_eq_false_iff_ne.2 h4n
          have HGR := genRead_on HR.out HGD.out HEND.out h4n
          rw [HL2.out] at HGR
          have hgo : genOk ⟨tn, l, []⟩ = contB tn l := by unfold genOk; rw [if_neg h4n]; simp
          have HGT := Lib.hid (genRight_any (.agg #[.int .i64 tn, .slice av n cv, .slice none 0 0]) ⟨tn, l, []⟩ _ ⟨_, _, rfl, HB5.out, (name_nil (fun _ => True) _).now⟩ ⟨by have := HLL.out; show l.length ≤ _; omega, by simp⟩)
          rw [hgo] at HGT
          have HGRR := Lib.hid HGR
          have x0 := HBX.out.cell 0
          have x1 := HBX.out.cell 1
          have x2 := HBX.out.cell 2
          simp only [List.getElem?_toArray, List.getElem?_cons_succ, List.getElem?_cons_zero] at x0 x1 x2
          clear HGR hgo h4n
          obtain ⟨cb, hcb⟩ : ∃ cb, cb = contB tn l := ⟨_, rfl⟩
          rw [← hcb] at HGT HGRR
          clear hcb
          go_wp2_with fail
          refine HGT.out.mono ?_
          rintro e w9 ⟨rfl, F9⟩
          have BX9 := HBX.out.fr F9 (fun h => h)
          have BZ9 := HBZ5.out.fr F9 (fun h => h)
          have HC9 := Lib.hid (HC5.out.old F9)
          have HF9 := Lib.hid (HF5.out.trans (F9.mono (T := fun k => k = c) (fun _ _ h => h.elim)))
          have HK9 := Lib.hid (HKB5.out.old F9)
          clear x0 x1 x2 F9 HC5 HF5 HKB5 HB5 HGT
          have z0 := BZ9.cell 0
          have z1 := BZ9.cell 1
          have z2 := BZ9.cell 2
          have f0 := BZ9.frozen 0
          have f1 := BZ9.frozen 1
          have f2 := BZ9.frozen 2
          simp only [List.getElem?_toArray, List.getElem?_cons_succ, List.getElem?_cons_zero] at z0 z1 z2
          cases cb with
          | false =>
            obtain ⟨W', hW, B5, ho, F5⟩ := ERR.out w9 6 (p + k + n) BZ9 HC9.out (by omega) HF9.out (by decide) (HGRR.out.trans (if_neg Bool.false_ne_true))
            subst hW
            have n0 := B5.cell 0
            have n1 := B5.cell 1
            have n2 := B5.cell 2
            simp only [List.getElem?_toArray, List.getElem?_cons_succ, List.getElem?_cons_zero] at n0 n1 n2
            have HO := Lib.hid (And.intro ho F5)
            clear B5 ho F5 BX9 BZ9
            go_wp2_with fail
            exact bodyPost_ret (v := .tuple #[.agg #[.int .i64 0, .slice none 0 0, .slice none 0 0], .int .i64 6]) (by simp [results, Tryz.results72, go_sem, n0, n1, n2]) rfl HO.out
          | true =>
            have HGE := Lib.hid (HGRR.out.trans (if_pos rfl))
            have y0 := BX9.cell 0
            have y1 := BX9.cell 1
            have y2 := BX9.cell 2
            obtain ⟨B5, F5⟩ := set3 BZ9 (.int .i64 tn) (.slice av n cv) (.slice none 0 0)
            have n0 := B5.cell 0
            have n1 := B5.cell 1
            have n2 := B5.cell 2
            simp only [List.getElem?_toArray, List.getElem?_cons_succ, List.getElem?_cons_zero] at y0 y1 y2 n0 n1 n2
            have HF5 := Lib.hid (HF9.out.trans' F5 (fun i hi e => by have := HZ.out; omega))
            have HC5 := Lib.hid (EK.out _ _ (HC9.out.step (K' := fun k => K k ∨ w.heap.size ≤ k) F5 (fun k _ e => .inr (by have := HZ.out; omega)) (fun _ h => .inl h)))
            have HK5 := Lib.hid (HK9.out.step (K' := fun k => k < w.heap.size) F5 (fun k _ e => by omega) (fun k hk => .inl (by omega)))
            clear B5 F5 BZ9 BX9 HK9 HC9 HF9 HGRR
            go_wp2_with fail
            refine bodyPost_ret (v := .tuple #[.agg #[.int .i64 tn, .slice av n cv, .slice none 0 0], .int .i64 0]) (by simp [results, Tryz.results72, go_sem, n0, n1, n2]) rfl ⟨?_, HF5.out⟩
            rw [HGE.out]
            refine ⟨av, cv, none, 0, by rw [HLL.out]; rfl, fun W f => ⟨by rw [HLL.out]; exact HK5.out W f, (name_nil (fun _ => True) W).now⟩, by rw [show p + (k + n) = p + k + n by omega]; exact HC5.out⟩
      · have hend : (bs.drop p).length - k < n := by rw [List.length_drop]; omega
        have HGR := Lib.hid (genRead_end HR.out HGD.out hend)
        have HTK := Lib.hid (take_end HC3.out n (by omega))
        clear hend hn
        go_wp2_with fail
        refine HTK.out.mono ?_
        rintro e w4 ⟨rfl, F4⟩
        obtain ⟨W', hW, B5, ho, F5⟩ := ERR.out w4 3 (p + k) (HBZ2.out.fr F4 (fun h => h)) (HC3.out.old F4) (by omega) (HF3.out.trans (F4.mono (fun _ _ h => h.elim))) (by decide) HGR.out
        have BQ := HBZ2.out.fr F4 (fun h => h)
        have z0 := BQ.cell 0
        have z1 := BQ.cell 1
        have z2 := BQ.cell 2
        have f0 := BQ.frozen 0
        have f1 := BQ.frozen 1
        have f2 := BQ.frozen 2
        subst hW
        have n0 := B5.cell 0
        have n1 := B5.cell 1
        have n2 := B5.cell 2
        simp only [List.getElem?_toArray, List.getElem?_cons_succ, List.getElem?_cons_zero] at z0 z1 z2 n0 n1 n2
        have HO := Lib.hid (And.intro ho F5)
        clear B5 ho F5 BQ F4 HTK
        go_wp2_with fail
        exact bodyPost_ret (v := .tuple #[.agg #[.int .i64 0, .slice none 0 0, .slice none 0 0], .int .i64 3]) (by simp [results, Tryz.results72, go_sem, n0, n1, n2]) rfl HO.out
end Go.Proofs.YtacekpdjapgfcaaGreatDoor

namespace Go.Proofs.YtacekpdjapgfcaaGreatDoor
open Go Go.RowKit Go.Q
set_option linter.unusedSimpArgs false
def rGenOut (K : Nat → Prop) (w' : World) (p : Nat) (r : Except Int (Gen × Nat)) (e : Ending) : Prop :=
  match r with
  | .error x => e = .returned (.tuple #[.agg #[.int .i64 0, .slice none 0 0, .slice none 0 0], .int .i64 p, .int .i64 x])
  | .ok (g, k) => ∃ ab cb an cn, e = .returned (.tuple #[.agg #[.int .i64 g.k, .slice ab g.b.length cb, .slice an g.n.length cn], .int .i64 ((p + k : Nat) : Int), .int .i64 0]) ∧ Kept (fun W => Bytes W (.slice ab g.b.length cb) g.b ∧ NameAt W (.slice an g.n.length cn) g.n) K w'
end Go.Proofs.YtacekpdjapgfcaaGreatDoor

namespace Go.Proofs.YtacekpdjapgfcaaGreatDoor
open Go Go.RowKit Go.Q
set_option linter.unusedSimpArgs false
def genReadOut (w w' : World) (c : Nat) (K : Nat → Prop) (bs : List UInt8) (p : Nat) (r : Except Int (Gen × Nat)) (e : Ending) : Prop :=
  match r with
  | .ok (g, m) => ∃ ab cb an cn, e = .returned (.tuple #[.agg #[.int .i64 g.k, .slice ab g.b.length cb, .slice an g.n.length cn], .int .i64 0]) ∧ Kept (fun W => Bytes W (.slice ab g.b.length cb) g.b ∧ NameAt W (.slice an g.n.length cn) g.n) (fun k => k < w.heap.size) w' ∧ CurAt w' c K bs (p + m)
  | .error x => e = .returned (.tuple #[.agg #[.int .i64 0, .slice none 0 0, .slice none 0 0], .int .i64 x]) ∧ x ≠ 0 ∧ CurAt w' c K bs p
set_option maxRecDepth 20000 in
set_option maxHeartbeats 4000000 in
theorem keptGen_any {w : World} {c : Nat} {K : Nat → Prop} {bs : List UInt8} {p : Nat} (h : CurAt w c K bs p) (hbs : bs.length ≤ 10000000) :
    Calls Tryz.prog 71 #[pt c, .func (.func 72) #[] #[]] w fun e w' => genReadOut w w' c K bs p (genReadS (bs.drop p)) e ∧ Fr (fun k => k = c) w w' := by
  have hcl := h.lt
  obtain ⟨z, hz⟩ : ∃ z, z = w.heap.size := ⟨_, rfl⟩
  have F0 : Fr (fun _ => False) w (w.alloc (.cells #[.int .i64 0, .slice none 0 0, .slice none 0 0] 42)) := (Fr.refl w).alloc _
  have B0 := Blk.new w 42 #[.int .i64 0, .slice none 0 0, .slice none 0 0]
  have H := Lib.hid (h.step (K' := fun k => K k ∨ w.heap.size ≤ k) F0 (fun _ _ h => h.elim) (fun _ h => h))
  rw [← hz] at B0
  have hzc : z ≠ c := by omega
  have HZ := Lib.hid hz
  clear h hz
  go_enter Tryz.func71, Tryz.ntmps71
  go_upto_region 1 with fail
  rw [← HZ.out]
  generalize (w.alloc (.cells #[.int .i64 0, .slice none 0 0, .slice none 0 0] 42)) = w0 at *
  have HB0 := Lib.hid B0
  have hz0 := B0.lt
  have HF0 := Lib.hid (F0.mono (T := fun k => k = c) (fun _ _ h => h.elim))
  have hs0 := F0.size
  have HA := Lib.hid (at_any H.out)
  have HRD := Lib.hid (genR_any H.out hbs)
  clear F0 B0 H
  go_wp2_with fail
  refine HA.out.mono ?_
  rintro e w0' ⟨rfl, rfl⟩
  go_wp2_with fail
  refine HRD.out.mono ?_
  rintro e w1 ⟨hout, F1⟩
  have HF1 := Lib.hid (HF0.out.trans F1)
  have HB1 := Lib.hid (HB0.out.fr F1 hzc)
  have hs1 := F1.size
  have hlt1 := HB1.out.lt
  have EK : ∀ (W : World) (q : Nat), CurAt W c (fun k => K k ∨ w.heap.size ≤ k) bs q → CurAt W c K bs q := fun W q C => C.step (K' := K) (Fr.refl W) (S := fun _ => False) (fun _ _ h => h.elim) (fun k hk => .inl (.inl hk))
  have HEK := Lib.hid EK
  clear F1 HRD HF0 HB0 EK HA
  unfold genOut at hout
  cases hr : genReadS (bs.drop p) with
  | error x =>
    rw [hr] at hout
    obtain ⟨rfl, hx, q, hq, C1⟩ := hout
    have hx1 : (x == 0) = false := beq_eq_false_iff_ne.2 hx
    have hx2 : (x != 0) = true := by simpa using hx
    have HR := Lib.hid hr
    have HX := Lib.hid hx
    have F2 : Fr (fun _ => False) w1 ((w1.alloc (.cells #[.int .i64 0, .slice none 0 0, .slice none 0 0] 42)).alloc (.cells #[.int .i64 0, .slice none 0 0, .slice none 0 0] 42)) := ((Fr.refl w1).alloc _).alloc _
    have HB2 := Lib.hid (HB1.out.fr F2 (fun h => h))
    have HC2 := Lib.hid (C1.old F2)
    have HF2 := Lib.hid (HF1.out.trans (F2.mono (T := fun k => k = c) (fun _ _ h => h.elim)))
    obtain ⟨y, hy⟩ : ∃ y, y = w1.heap.size + 1 := ⟨_, rfl⟩
    have BY := Blk.new (w1.alloc (.cells #[.int .i64 0, .slice none 0 0, .slice none 0 0] 42)) 42 #[.int .i64 0, .slice none 0 0, .slice none 0 0]
    rw [World.size_alloc, ← hy] at BY
    have HBY := Lib.hid BY
    have hyz : y ≠ z := by omega
    have hyc : y ≠ c := by have := C1.lt; omega
    clear hr hx C1 F2 BY HB1 HF1
    go_upto_region 5 with fail
    try rw [World.size_alloc]
    rw [← hy]
    clear hy
    generalize ((w1.alloc (.cells #[.int .i64 0, .slice none 0 0, .slice none 0 0] 42)).alloc (.cells #[.int .i64 0, .slice none 0 0, .slice none 0 0] 42)) = w2 at *
    have HBK := Lib.hid (back_any HC2.out p hq)
    go_wp2_with fail
    refine HBK.out.mono ?_
    rintro e w3 ⟨rfl, C3, F3⟩
    have BZ := HB2.out.fr F3 hzc
    have BY := HBY.out.fr F3 hyc
    have z0 := BZ.cell 0
    have z1 := BZ.cell 1
    have z2 := BZ.cell 2
    have f0 := BZ.frozen 0
    have f1 := BZ.frozen 1
    have f2 := BZ.frozen 2
    have y0 := BY.cell 0
    have y1 := BY.cell 1
    have y2 := BY.cell 2
    obtain ⟨B5, F5⟩ := set3 BZ (.int .i64 0) (.slice none 0 0) (.slice none 0 0)
    have n0 := B5.cell 0
    have n1 := B5.cell 1
    have n2 := B5.cell 2
    simp only [List.getElem?_toArray, List.getElem?_cons_succ, List.getElem?_cons_zero] at z0 z1 z2 y0 y1 y2 n0 n1 n2
    have HC5 := Lib.hid (HEK.out _ _ (C3.step (K' := fun k => K k ∨ w.heap.size ≤ k) F5 (fun k _ e => .inr (by have := HZ.out; omega)) (fun _ h => .inl h)))
    have HF5 := Lib.hid ((HF2.out.trans F3).trans' F5 (fun i hi e => by have := HZ.out; omega))
    clear C3 F3 BZ BY B5 F5 HBK HC2 HB2 HBY
    go_wp2_with fail
    refine bodyPost_ret (v := .tuple #[.agg #[.int .i64 0, .slice none 0 0, .slice none 0 0], .int .i64 x]) (by simp [results, Tryz.results71, go_sem, n0, n1, n2]) rfl ⟨?_, HF5.out⟩
    rw [HR.out]
    exact ⟨rfl, HX.out, HC5.out⟩
  | ok gm =>
    obtain ⟨g, m⟩ := gm
    rw [hr] at hout
    obtain ⟨ab, cb, an, cn, rfl, hk, C1⟩ := hout
    have HR := Lib.hid hr
    have F2 : Fr (fun _ => False) w1 (w1.alloc (.cells #[.int .i64 g.k, .slice ab g.b.length cb, .slice an g.n.length cn] 42)) := (Fr.refl w1).alloc _
    have HB2 := Lib.hid (HB1.out.fr F2 (fun h => h))
    have HC2 := Lib.hid (C1.old F2)
    have HF2 := Lib.hid (HF1.out.trans (F2.mono (T := fun k => k = c) (fun _ _ h => h.elim)))
    have HK2 := Lib.hid (hk.old F2)
    obtain ⟨y, hy⟩ : ∃ y, y = w1.heap.size := ⟨_, rfl⟩
    have BY := Blk.new w1 42 #[.int .i64 g.k, .slice ab g.b.length cb, .slice an g.n.length cn]
    rw [← hy] at BY
    have HBY := Lib.hid BY
    clear hr hk C1 F2 BY HB1 HF1
    go_upto_region 3 with fail
    rw [← hy]
    clear hy
    generalize (w1.alloc (.cells #[.int .i64 g.k, .slice ab g.b.length cb, .slice an g.n.length cn] 42)) = w2 at *
    have BZ := HB2.out
    have BY := HBY.out
    have z0 := BZ.cell 0
    have z1 := BZ.cell 1
    have z2 := BZ.cell 2
    have f0 := BZ.frozen 0
    have f1 := BZ.frozen 1
    have f2 := BZ.frozen 2
    have y0 := BY.cell 0
    have y1 := BY.cell 1
    have y2 := BY.cell 2
    obtain ⟨B5, F5⟩ := set3 BZ (.int .i64 g.k) (.slice ab g.b.length cb) (.slice an g.n.length cn)
    have n0 := B5.cell 0
    have n1 := B5.cell 1
    have n2 := B5.cell 2
    simp only [List.getElem?_toArray, List.getElem?_cons_succ, List.getElem?_cons_zero] at z0 z1 z2 y0 y1 y2 n0 n1 n2
    have HC5 := Lib.hid (HEK.out _ _ (HC2.out.step (K' := fun k => K k ∨ w.heap.size ≤ k) F5 (fun k _ e => .inr (by have := HZ.out; omega)) (fun _ h => .inl h)))
    have HF5 := Lib.hid (HF2.out.trans' F5 (fun i hi e => by have := HZ.out; omega))
    have HK5 := Lib.hid (HK2.out.step (K' := fun k => k < w.heap.size) F5 (fun k _ e => by omega) (fun k hk => .inl (by omega)))
    clear BZ BY B5 F5 HC2 HB2 HBY HK2
    go_wp2_with fail
    refine bodyPost_ret (v := .tuple #[.agg #[.int .i64 g.k, .slice ab g.b.length cb, .slice an g.n.length cn], .int .i64 0]) (by simp [results, Tryz.results71, go_sem, n0, n1, n2]) rfl ⟨?_, HF5.out⟩
    rw [HR.out]
    exact ⟨ab, cb, an, cn, rfl, HK5.out, HC5.out⟩
set_option maxRecDepth 20000 in
set_option maxHeartbeats 2000000 in
theorem genRead_any {w : World} {c : Nat} {K : Nat → Prop} {bs : List UInt8} {p : Nat} (h : CurAt w c K bs p) (hbs : bs.length ≤ 10000000) :
    Calls Tryz.prog 19 #[pt c] w fun e w' => genReadOut w w' c K bs p (genReadS (bs.drop p)) e ∧ Fr (fun k => k = c) w w' := by
  have hcl := h.lt
  obtain ⟨z, hz⟩ : ∃ z, z = w.heap.size := ⟨_, rfl⟩
  have F0 : Fr (fun _ => False) w (w.alloc (.cells #[.int .i64 0, .slice none 0 0, .slice none 0 0] 42)) := (Fr.refl w).alloc _
  have B0 := Blk.new w 42 #[.int .i64 0, .slice none 0 0, .slice none 0 0]
  have H := Lib.hid (h.step (K' := fun k => K k ∨ w.heap.size ≤ k) F0 (fun _ _ h => h.elim) (fun _ h => h))
  rw [← hz] at B0
  have hzc : z ≠ c := by omega
  have HZ := Lib.hid hz
  clear h hz
  go_enter Tryz.func19, Tryz.ntmps19
  go_upto_region 1 with fail
  rw [← HZ.out]
  generalize (w.alloc (.cells #[.int .i64 0, .slice none 0 0, .slice none 0 0] 42)) = w0 at *
  have HB0 := Lib.hid B0
  have hz0 := B0.lt
  have hs0 := F0.size
  have HF0 := Lib.hid (F0.mono (T := fun k => k = c) (fun _ _ h => h.elim))
  have HRD := Lib.hid (keptGen_any H.out hbs)
  clear F0 B0 H
  go_wp2_with fail
  refine HRD.out.mono ?_
  rintro e w1 ⟨hout, F1⟩
  have HF1 := Lib.hid (HF0.out.trans F1)
  have BZ := HB0.out.fr F1 hzc
  have EK : ∀ (W : World) (q : Nat), CurAt W c (fun k => K k ∨ w.heap.size ≤ k) bs q → CurAt W c K bs q := fun W q C => C.step (K' := K) (Fr.refl W) (S := fun _ => False) (fun _ _ h => h.elim) (fun k hk => .inl (.inl hk))
  have HEK := Lib.hid EK
  have z0 := BZ.cell 0
  have z1 := BZ.cell 1
  have z2 := BZ.cell 2
  have f0 := BZ.frozen 0
  have f1 := BZ.frozen 1
  have f2 := BZ.frozen 2
  clear F1 HRD HF0 HB0 EK
  unfold genReadOut at hout
  cases hr : genReadS (bs.drop p) with
  | error x =>
    rw [hr] at hout
    obtain ⟨rfl, hx, C1⟩ := hout
    have HR := Lib.hid hr
    have HX := Lib.hid hx
    obtain ⟨B5, F5⟩ := set3 BZ (.int .i64 0) (.slice none 0 0) (.slice none 0 0)
    have n0 := B5.cell 0
    have n1 := B5.cell 1
    have n2 := B5.cell 2
    simp only [List.getElem?_toArray, List.getElem?_cons_succ, List.getElem?_cons_zero] at z0 z1 z2 n0 n1 n2
    have HC5 := Lib.hid (HEK.out _ _ (C1.step (K' := fun k => K k ∨ w.heap.size ≤ k) F5 (fun k _ e => .inr (by have := HZ.out; omega)) (fun _ h => .inl h)))
    have HF5 := Lib.hid (HF1.out.trans' F5 (fun i hi e => by have := HZ.out; omega))
    clear hr hx C1 BZ B5 F5
    go_wp2_with fail
    refine bodyPost_ret (v := .tuple #[.agg #[.int .i64 0, .slice none 0 0, .slice none 0 0], .int .i64 x]) (by simp [results, Tryz.results19, go_sem, n0, n1, n2]) rfl ⟨?_, HF5.out⟩
    rw [HR.out]
    exact ⟨rfl, HX.out, HC5.out⟩
  | ok gm =>
    obtain ⟨g, m⟩ := gm
    rw [hr] at hout
    obtain ⟨ab, cb, an, cn, rfl, hk, C1⟩ := hout
    have HR := Lib.hid hr
    obtain ⟨B5, F5⟩ := set3 BZ (.int .i64 g.k) (.slice ab g.b.length cb) (.slice an g.n.length cn)
    have n0 := B5.cell 0
    have n1 := B5.cell 1
    have n2 := B5.cell 2
    simp only [List.getElem?_toArray, List.getElem?_cons_succ, List.getElem?_cons_zero] at z0 z1 z2 n0 n1 n2
    have HC5 := Lib.hid (HEK.out _ _ (C1.step (K' := fun k => K k ∨ w.heap.size ≤ k) F5 (fun k _ e => .inr (by have := HZ.out; omega)) (fun _ h => .inl h)))
    have HF5 := Lib.hid (HF1.out.trans' F5 (fun i hi e => by have := HZ.out; omega))
    have HK5 := Lib.hid (hk.step (K' := fun k => k < w.heap.size) F5 (fun k _ e => by omega) (fun k hk => .inl (by omega)))
    clear hr hk C1 BZ B5 F5
    go_wp2_with fail
    refine bodyPost_ret (v := .tuple #[.agg #[.int .i64 g.k, .slice ab g.b.length cb, .slice an g.n.length cn], .int .i64 0]) (by simp [results, Tryz.results19, go_sem, n0, n1, n2]) rfl ⟨?_, HF5.out⟩
    rw [HR.out]
    exact ⟨ab, cb, an, cn, rfl, HK5.out, HC5.out⟩
def gensOut (w w' : World) (c : Nat) (K : Nat → Prop) (bs : List UInt8) (p : Nat) (r : Except Int (List Gen × Nat)) (e : Ending) : Prop :=
  match r with
  | .ok (l, m) => ∃ a cc, e = .returned (.tuple #[.slice a l.length cc, .int .i64 0]) ∧ Kept (fun W => Gens W (.slice a l.length cc) l) (fun k => k < w.heap.size) w' ∧ CurAt w' c K bs (p + m)
  | .error x => e = .returned (.tuple #[.slice none 0 0, .int .i64 x]) ∧ x ≠ 0 ∧ ∃ q, p ≤ q ∧ CurAt w' c K bs q
def gensReadOut (w w' : World) (c : Nat) (K : Nat → Prop) (bs : List UInt8) (p : Nat) (r : Except Int (List Gen × Nat)) (e : Ending) : Prop :=
  match r with
  | .ok (l, m) => ∃ a cc, e = .returned (.tuple #[.slice a l.length cc, .int .i64 0]) ∧ Kept (fun W => Gens W (.slice a l.length cc) l) (fun k => k < w.heap.size) w' ∧ CurAt w' c K bs (p + m)
  | .error x => e = .returned (.tuple #[.slice none 0 0, .int .i64 x]) ∧ x ≠ 0 ∧ CurAt w' c K bs p
def genAllR (l : List UInt8) : Except Int (List Gen × Nat) := match genAllS l with | .error e => .error e | .ok gs => .ok (gs, l.length)
end Go.Proofs.YtacekpdjapgfcaaGreatDoor

namespace Go.Proofs.YtacekpdjapgfcaaGreatDoor
open Go Go.RowKit Go.Q
set_option linter.unusedSimpArgs false
def rGensOut (K : Nat → Prop) (w' : World) (r : Except Int (List Gen)) (e : Ending) : Prop :=
  match r with
  | .error x => e = .returned (.tuple #[.slice none 0 0, .int .i64 x])
  | .ok gs => ∃ a c, e = .returned (.tuple #[.slice a gs.length c, .int .i64 0]) ∧ Kept (fun W => Gens W (.slice a gs.length c) gs) K w'
def rListOut (K : Nat → Prop) (w' : World) (p : Nat) (r : Except Int (List Gen × Nat)) (e : Ending) : Prop :=
  match r with
  | .error x => e = .returned (.tuple #[.slice none 0 0, .int .i64 p, .int .i64 x])
  | .ok (gs, k) => ∃ a c, e = .returned (.tuple #[.slice a gs.length c, .int .i64 ((p + k : Nat) : Int), .int .i64 0]) ∧ Kept (fun W => Gens W (.slice a gs.length c) gs) K w'
end Go.Proofs.YtacekpdjapgfcaaGreatDoor
