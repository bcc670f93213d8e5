/-
  Merged by program: XGenW XR15W XGenWa XGlLaw XGlW.
-/
import Derived.Test.YtacekpdjapgfcaaGreatDoorD0aq
import Derived.Test.YtacekpdjapgfcaaGreatDoorD0al
import Derived.Test.YtacekpdjapgfcaaGreatDoorD0ag
import Derived.Test.YtacekpdjapgfcaaGreatDoorD0ao
import Derived.Test.YtacekpdjapgfcaaGreatDoorD0ad
import Derived.Test.YtacekpdjapgfcaaGreatDoorD0au
import Derived.Test.YtacekpdjapgfcaaGreatDoorD0av
import Derived.Test.YtacekpdjapgfcaaGreatDoorD0at
import Derived.Test.YtacekpdjapgfcaaGreatDoorD0aj
namespace Go.Q
open Go Go.RowKit
theorem wname_small {g : Gen} (h4 : g.k = 4) (hb : (genBody g).length ≤ 16777216) : (wholesN g.n).flatten.length ≤ 16777216 := by
  have : genBody g = nameWhole g.n := if_pos h4
  rw [this] at hb
  unfold nameWhole at hb
  rw [wrap_len] at hb
  omega
theorem wname_ok {g : Gen} (h : genOk g = true) (h4 : g.k = 4) : nameOk g.n = true := by
  unfold genOk at h
  rw [if_pos h4, Bool.and_eq_true] at h
  exact h.2
theorem body_le_whole (g : Gen) : (genBody g).length < (genWhole g).length := by
  unfold genWhole
  rw [wrap_len]
  omega
end Go.Q
namespace Go.Proofs.YtacekpdjapgfcaaGreatDoor
open Go Go.RowKit Go.Q
set_option linter.unusedSimpArgs false
set_option maxRecDepth 20000 in
set_option maxHeartbeats 4000000 in
theorem genWrite_ok (u : Value) (g : Gen) (w : World) (h : GenAt w u g) (hf : fewG g) (hok : genOk g = true) (hb : (genBody g).length ≤ 16777216) :
    Calls Tryz.prog 41 #[u] w fun e w' => (∃ a c, e = .returned (.tuple #[.slice a (genWhole g).length c, .int .i64 0]) ∧ w'.ownsRow w.heap.size 5 1 (.slice a (genWhole g).length c) (genWhole g).length (Lib.byteCells (genWhole g))) ∧ Fr (fun _ => False) w w' := by
  obtain ⟨ab, cb, an, cn, rfl, hbb, hn⟩ := h.form
  obtain ⟨k0, k8⟩ := gen_kind hok
  obtain ⟨z, hz⟩ : ∃ z, z = w.heap.size := ⟨_, rfl⟩
  have HZ := Lib.hid hz
  have F0 : Fr (fun _ => False) w (w.alloc (.cells #[.int .i64 g.k, .slice ab g.b.length cb, .slice an g.n.length cn] 42)) := (Fr.refl w).alloc _
  have B := Blk.new w 42 #[.int .i64 g.k, .slice ab g.b.length cb, .slice an g.n.length cn]
  rw [← hz] at B
  have HR := genRight_any _ g _ (h.old F0) hf
  rw [hok] at HR
  have HRI := Lib.hid HR
  have HF0 := Lib.hid F0
  have HB := Lib.hid (hbb.old F0)
  have HN := Lib.hid (hn.old F0)
  have HFW := Lib.hid hf
  have HTG := Lib.hid (genTag_good k0 k8)
  have HTE := Lib.hid (show tagV (genTag g.k) = .agg #[.int .i64 2, .int .i64 g.k, .bool (madeG g.k)] from rfl)
  have HWH := Lib.hid (show genWhole g = wrapS (genTag g.k) (genBody g) from rfl)
  have HGT := Lib.hid (fun w => genTag_any g.k w)
  have hcase : (g.k = 4 ∧ (nameOk g.n = true ∧ (wholesN g.n).flatten.length ≤ 16777216 ∧ genBody g = nameWhole g.n)) ∨ ((g.k == 4) = false ∧ genBody g = g.b) := by
    by_cases h4 : g.k = 4
    · exact .inl ⟨h4, wname_ok hok h4, wname_small h4 hb, if_pos h4⟩
    · exact .inr ⟨beq_eq_false_iff_ne.2 h4, if_neg h4⟩
  clear h hbb hn F0 hz HR hok k0 k8 hf
  have HCS := Lib.hid hcase
  clear hcase
  go_enter Tryz.func41, Tryz.ntmps41
  go_upto_region 1 with fail
  rw [← HZ.out]
  generalize (w.alloc (.cells #[.int .i64 g.k, .slice ab g.b.length cb, .slice an g.n.length cn] 42)) = w0 at *
  have HBL := Lib.hid B
  have e0 := B.cell 0
  have e1 := B.cell 1
  have e2 := B.cell 2
  simp only [List.getElem?_toArray, List.getElem?_cons_succ, List.getElem?_cons_zero] at e0 e1 e2
  clear B
  go_wp2_with fail
  refine HRI.out.mono ?_
  rintro e w1 ⟨rfl, F1⟩
  have HB1 := Lib.hid (HB.out.old F1)
  have HN1 := Lib.hid (HN.out.old F1)
  have B1 := HBL.out.fr F1 (fun h => h)
  have HBL1 := Lib.hid B1
  have HF1 := Lib.hid (HF0.out.trans F1)
  clear e0 e1 e2 HB HN HBL HF0 F1 HRI
  have e0 := B1.cell 0
  have e1 := B1.cell 1
  have e2 := B1.cell 2
  simp only [List.getElem?_toArray, List.getElem?_cons_succ, List.getElem?_cons_zero] at e0 e1 e2
  clear B1
  rcases HCS.out with ⟨k4, hk⟩ | ⟨k4, hk⟩
  case inl =>
    have q4 : (g.k == 4) = true := by rw [k4]; rfl
    have HW := Lib.hid (nameWrite_ok _ g.n w1 HN1.out HFW.out.2 hk.1 hk.2.1)
    rw [hk.2.2] at hb HWH
    clear hk HCS k4
    go_wp2_with fail
    refine HW.out.mono ?_
    rintro e w2 ⟨⟨a2, c2, rfl, ho⟩, F2⟩
    have HV := Lib.hid (Vals.of_own ho).1
    have HF2 := Lib.hid (HF1.out.trans F2)
    have B2 := HBL1.out.fr F2 (fun h => h)
    clear ho F2 HW HF1 e0 e1 e2
    generalize nameWhole g.n = body at *
    have e0 := B2.cell 0
    have e1 := B2.cell 1
    have e2 := B2.cell 2
    simp only [List.getElem?_toArray, List.getElem?_cons_succ, List.getElem?_cons_zero] at e0 e1 e2
    go_upto_region 9 with fail
    go_wp2_with fail
    refine (HGT.out w2).mono ?_
    rintro e w3 ⟨rfl, F3⟩
    have HO := wrap_any (genTag g.k) HTG.out _ [body] _ (Parts.one (HV.out.old F3)) (by simpa using hb) (by simp)
    rw [HTE.out, List.flatten_singleton, ← HWH.out] at HO
    have HOI := Lib.hid HO
    have F4 := (HF2.out.trans F3).alloc (.cells #[.slice a2 body.length c2] 23)
    have HF4 := Lib.hid F4
    rw [HTE.out]
    clear F3 HO F4
    go_wp2_with fail
    refine HOI.out.mono ?_
    rintro e w4 ⟨v4, rfl, ho, F5⟩
    obtain ⟨av, m4, cv, rfl, rfl⟩ := own_shape ho
    have HF5 := Lib.hid (HF4.out.trans F5)
    have HOW := Lib.hid (own_le ho (base' := w.heap.size) HF4.out.size)
    clear ho F5
    go_wp2_with fail
    exact bodyPost_ret (v := .tuple #[.slice av (genWhole g).length cv, .int .i64 0]) (by simp [results, Tryz.results41, go_sem]) rfl ⟨⟨av, cv, rfl, HOW.out⟩, HF5.out⟩
  case inr =>
    rw [hk] at hb HWH
    have HV := HB1
    have HF2 := HF1
    clear hk HCS HF1
    go_upto_region 9 with fail
    go_wp2_with fail
    refine (HGT.out w1).mono ?_
    rintro e w3 ⟨rfl, F3⟩
    have HO := wrap_any (genTag g.k) HTG.out _ [g.b] _ (Parts.one (HV.out.old F3)) (by simpa using hb) (by simp)
    rw [HTE.out, List.flatten_singleton, ← HWH.out] at HO
    have HOI := Lib.hid HO
    have F4 := (HF2.out.trans F3).alloc (.cells #[.slice ab g.b.length cb] 23)
    have HF4 := Lib.hid F4
    rw [HTE.out]
    clear F3 HO F4
    go_wp2_with fail
    refine HOI.out.mono ?_
    rintro e w4 ⟨v4, rfl, ho, F5⟩
    obtain ⟨av, m4, cv, rfl, rfl⟩ := own_shape ho
    have HF5 := Lib.hid (HF4.out.trans F5)
    have HOW := Lib.hid (own_le ho (base' := w.heap.size) HF4.out.size)
    clear ho F5
    go_wp2_with fail
    exact bodyPost_ret (v := .tuple #[.slice av (genWhole g).length cv, .int .i64 0]) (by simp [results, Tryz.results41, go_sem]) rfl ⟨⟨av, cv, rfl, HOW.out⟩, HF5.out⟩
end Go.Proofs.YtacekpdjapgfcaaGreatDoor

namespace Go.Q
open Go Go.RowKit
theorem body_name {g : Gen} (h4 : g.k = 4) (hb : (genBody g).length ≤ 16777216) : (wholesN g.n).flatten.length ≤ 16777216 := by
  have : genBody g = nameWhole g.n := if_pos h4
  rw [this] at hb
  unfold nameWhole at hb
  rw [wrap_len] at hb
  omega
def genAll (l : List Gen) : List UInt8 := (l.map genWhole).flatten
theorem genAll_take {l : List Gen} {j : Nat} {x : Gen} (h : l[j]? = some x) : genAll (l.take (j + 1)) = genAll (l.take j) ++ genWhole x := by
  unfold genAll
  rw [List.take_add_one, h]
  simp
theorem gen_name {g : Gen} (h : genOk g = true) (h4 : g.k = 4) : nameOk g.n = true := by
  unfold genOk at h
  rw [if_pos h4, Bool.and_eq_true] at h
  exact h.2
end Go.Q
namespace Go.Proofs.YtacekpdjapgfcaaGreatDoor
open Go Go.RowKit Go.Q
set_option linter.unusedSimpArgs false
set_option maxRecDepth 20000 in
set_option maxHeartbeats 4000000 in
theorem r15Write_any (u : Value) (g : Gen) (w : World) (h : GenAt w u g) (hf : fewG g) (hok : genOk g = true) (hb : (genBody g).length ≤ 16777216) :
    Calls Tryz.prog 44 #[u] w fun e w' => (∃ a c, e = .returned (.slice a (genWhole g).length c) ∧ w'.ownsRow w.heap.size 5 1 (.slice a (genWhole g).length c) (genWhole g).length (Lib.byteCells (genWhole g))) ∧ Fr (fun _ => False) w w' := by
  obtain ⟨ab, cb, an, cn, rfl, hbb, hn⟩ := h.form
  obtain ⟨k0, k8⟩ := gen_kind hok
  obtain ⟨k, b, n⟩ := g
  obtain ⟨f1, f2⟩ := hf
  simp only at hbb hn f1 f2 k0 k8 ⊢
  obtain ⟨z, hz⟩ : ∃ z, z = w.heap.size := ⟨_, rfl⟩
  have HZ := Lib.hid hz
  have F0 : Fr (fun _ => False) w (w.alloc (.cells #[.int .i64 k, .slice ab b.length cb, .slice an n.length cn] 46)) := (Fr.refl w).alloc _
  have B := Blk.new w 46 #[.int .i64 k, .slice ab b.length cb, .slice an n.length cn]
  rw [← hz] at B
  have HB := Lib.hid (hbb.old F0)
  have HF0 := Lib.hid F0
  have HTG := Lib.hid (genTag_good k0 k8)
  have HTE := Lib.hid (show genTag k = tagAt k (madeG k) from rfl)
  have HWH := Lib.hid (show genWhole ⟨k, b, n⟩ = wrapS (genTag k) (genBody ⟨k, b, n⟩) from rfl)
  have HMD := Lib.hid (fun w => r15made_any k w)
  obtain ⟨m, hm⟩ : ∃ m, m = madeG k := ⟨_, rfl⟩
  rw [← hm] at HTE HMD
  have hcase : (k = 4 ∧ (nameOk n = true ∧ (wholesN n).flatten.length ≤ 16777216 ∧ genBody ⟨k, b, n⟩ = nameWhole n)) ∨ ((k == 4) = false ∧ genBody ⟨k, b, n⟩ = b) := by
    by_cases h4 : k = 4
    · exact .inl ⟨h4, gen_name hok h4, body_name (g := ⟨k, b, n⟩) h4 hb, if_pos h4⟩
    · exact .inr ⟨beq_eq_false_iff_ne.2 h4, if_neg h4⟩
  have HN := Lib.hid (hn.old F0)
  have HF2 := Lib.hid f2
  clear h hbb hn F0 hz hok k0 k8 hm f2
  rcases hcase with ⟨h4, hk⟩ | ⟨k4, hk⟩
  case' inl =>
    have k4 : (k == 4) = true := by rw [h4]; rfl
    have HW := Lib.hid (r14Write_any _ n _ HN.out HF2.out hk.1 hk.2.1)
    rw [hk.2.2] at hb HWH
    clear hk h4
    go_enter Tryz.func44, Tryz.ntmps44
    go_upto_region 1 with fail
    rw [← HZ.out]
    generalize (w.alloc (.cells #[.int .i64 k, .slice ab b.length cb, .slice an n.length cn] 46)) = w0 at *
    have e0 := B.cell 0
    have e1 := B.cell 1
    have e2 := B.cell 2
    simp only [List.getElem?_toArray, List.getElem?_cons_succ, List.getElem?_cons_zero] at e0 e1 e2
    go_wp2_with fail
    refine HW.out.mono ?_
    rintro e w1 ⟨⟨a1, c1, rfl, ho⟩, F1⟩
    have HV := Lib.hid (Vals.of_own ho).1
    have HG1 := Lib.hid (HF0.out.trans F1)
    have B1 := B.fr F1 (fun h => h)
    clear B e0 e1 e2 ho F1 HW
    generalize nameWhole n = body at *
    go_upto_region 4 with fail
  case' inr =>
    rw [hk] at hb HWH
    clear hk
    go_enter Tryz.func44, Tryz.ntmps44
    go_upto_region 1 with fail
    rw [← HZ.out]
    generalize (w.alloc (.cells #[.int .i64 k, .slice ab b.length cb, .slice an n.length cn] 46)) = w1 at *
    have e0 := B.cell 0
    have e1 := B.cell 1
    have e2 := B.cell 2
    simp only [List.getElem?_toArray, List.getElem?_cons_succ, List.getElem?_cons_zero] at e0 e1 e2
    have HV := HB
    have HG1 := HF0
    have B1 := B
    go_upto_region 4 with fail
    clear B e0 e1 e2
  all_goals
    replace B1 := B1.drew
    have G1 : Fr (fun _ => False) w1 w1.drew := (Fr.refl w1).drew
    go_region_held3 (fun w' => ∀ j, w'.cell? ⟨z, j, none⟩ = (#[.int .i64 k, .slice ab b.length cb, .slice an n.length cn] : Array Value)[j]?) (exact B1.cell) (first
      | (go_at_call 74; refine (HMD.out _).mono ?_; rintro e w' ⟨rfl, rfl⟩)
      | (go_at_call 95; refine (r02At_any _ m _).mono ?_; rintro e w' ⟨rfl, F⟩; replace B1 := B1.fr F (fun h => h); replace G1 := G1.trans F; clear F)
      | (go_at_call 50; rw [← HTE.out]; refine (r02Wrap_any _ HTG.out _ _ _ (HV.out.old G1) hb).mono ?_; rintro e w' ⟨v', rfl, ho, F⟩; replace B1 := B1.fr F (fun h => h); have G2 := G1.trans F))
    all_goals
      obtain ⟨a7, n7, c7, rfl, rfl⟩ := own_shape ho
      have HO := Lib.hid (own_le ho (HG1.out.trans G1).size)
      have HG2 := Lib.hid (HG1.out.trans G2)
      clear ho G1 G2 F B1
      go_wp2_with fail
      go_ret
      rw [HWH.out]
      exact ⟨⟨a7, c7, rfl, HO.out⟩, HG2.out⟩
def allOkS (l : List Gen) : Bool := l.all genOk && decide (0 < l.length ∧ l.length ≤ 10000)
set_option maxRecDepth 20000 in
set_option maxHeartbeats 2000000 in
theorem r15All_any (v : Value) (l : List Gen) (w : World) (h : Gens w v l) (hf : ∀ g ∈ l, fewG g) :
    Calls Tryz.prog 48 #[v] w fun e w' => e = .returned (.bool (allOkS l)) ∧ Fr (fun _ => False) w w' := by
  have H := Lib.hid h
  have HFW := Lib.hid hf
  obtain ⟨a, cap, rfl, hc, hm, -⟩ := h
  have hm2 : l.length ≤ 9223372036854775807 := by unfold maxLen at hm; omega
  have HAO := Lib.hid (show allOkS l = (l.all genOk && decide (0 < l.length ∧ l.length ≤ 10000)) from rfl)
  clear hf hc hm
  go_enter Tryz.func48, Tryz.ntmps48
  go_wp2_with fail
  go_loopg [3] l.length (fun g i wr => ∃ j : Nat, g = l.length - j ∧ j ≤ l.length ∧ i = .int .i64 j ∧ (∀ x ∈ l.take j, genOk x = true) ∧ Fr (fun _ => False) w wr)
  case atStart => exact ⟨0, rfl, Nat.zero_le _, rfl, by simp, Fr.refl _⟩
  case round =>
    obtain ⟨j, hg, hj, rfl, he, F⟩ := hrel
    have HG := Lib.hid hg
    have HE := Lib.hid he
    have HF := Lib.hid F
    clear hg he
    by_cases hjl : j < l.length
    · obtain ⟨x, hx⟩ : ∃ x, l[j]? = some x := ⟨_, List.getElem?_eq_getElem hjl⟩
      obtain ⟨b, o, ab, cb, an, cn, rfl, -, hga, e0, e1, e2⟩ := (H.out.old F).get hx
      have r1 : (0 : Int) ≤ (j : Int) := by omega
      have r2 : (j : Int) < (l.length : Int) := by omega
      have HR := Lib.hid (r15Right_any _ x wr hga (HFW.out x (List.mem_of_getElem? hx)))
      have HX := Lib.hid hx
      obtain ⟨d, hd⟩ : ∃ d, d = genOk x := ⟨_, rfl⟩
      rw [← hd] at HR
      have HD := Lib.hid hd
      clear hx hga hd F
      go_wp2_with fail
      refine HR.out.mono ?_
      rintro e w2 ⟨rfl, F2⟩
      have HF2 := Lib.hid (HF.out.trans F2)
      clear F2 e0 e1 e2 HR
      cases d with
      | false =>
        have HN := Lib.hid (show l.all genOk = false from List.all_eq_false.2 ⟨x, List.mem_of_getElem? HX.out, by rw [← HD.out]; exact Bool.false_ne_true⟩)
        go_wp2_with fail
        go_ret
        exact ⟨by rw [HAO.out, HN.out, Bool.false_and]; rfl, HF2.out⟩
      | true =>
        have HN := Lib.hid (show ∀ y ∈ l.take (j + 1), genOk y = true from fun y hy => by
          rw [List.take_add_one, HX.out] at hy
          rcases List.mem_append.1 hy with h | h
          · exact HE.out y h
          · simp at h
            rw [h]
            exact HD.out.symm)
        go_wp2_with fail
        go_roundg (l.length - (j + 1))
        case measure => rw [HG.out]; omega
        case rel => exact ⟨j + 1, rfl, by omega, by go_num, HN.out, HF2.out⟩
    · have hall := HE.out
      rw [List.take_of_length_le (by omega)] at hall
      have HN := Lib.hid (show l.all genOk = true from List.all_eq_true.2 hall)
      clear hall
      rcases Nat.eq_zero_or_pos l.length with h0 | h0
      · have q1 : decide ((0 : Int) < (l.length : Int)) = false := decide_eq_false (by omega)
        have q2 : ¬ (0 : Int) < (l.length : Int) := by omega
        have HD := Lib.hid (decide_eq_false (show ¬ (0 < l.length ∧ l.length ≤ 10000) by omega))
        clear h0
        go_wp2_with fail
        go_ret
        exact ⟨by rw [HAO.out, HN.out, HD.out]; rfl, F⟩
      · have q1 : decide ((0 : Int) < (l.length : Int)) = true := decide_eq_true (by omega)
        have q2 : (0 : Int) < (l.length : Int) := by omega
        by_cases hle : l.length ≤ 10000
        · have HD := Lib.hid (decide_eq_true (show 0 < l.length ∧ l.length ≤ 10000 by omega))
          have q3 : (l.length : Int) ≤ 10000 := by omega
          clear h0 hle
          go_wp2_with fail
          go_ret
          exact ⟨by rw [HAO.out, HN.out, HD.out]; first | rfl | simp [q3], F⟩
        · have HD := Lib.hid (decide_eq_false (show ¬ (0 < l.length ∧ l.length ≤ 10000) by omega))
          have q3 : ¬ (l.length : Int) ≤ 10000 := by omega
          clear h0 hle
          go_wp2_with fail
          go_ret
          exact ⟨by rw [HAO.out, HN.out, HD.out]; first | rfl | simp [q3], F⟩
set_option maxRecDepth 100000 in
set_option maxHeartbeats 4000000 in
theorem r15WriteAll_any (v : Value) (l : List Gen) (w : World) (h : Gens w v l) (hf : ∀ g ∈ l, fewG g) (hok : ∀ g ∈ l, genOk g = true) (hb : ∀ g ∈ l, (genBody g).length ≤ 16777216) (hn : l.length ≤ 100000) :
    Calls Tryz.prog 49 #[v] w fun e w' => (∃ a c, e = .returned (.slice a (genAll l).length c) ∧ w'.ownsRow w.heap.size 5 1 (.slice a (genAll l).length c) (genAll l).length (Lib.byteCells (genAll l))) ∧ Fr (fun _ => False) w w' := by
  have H := Lib.hid h
  have HFW := Lib.hid hf
  have HOK := Lib.hid hok
  have HBD := Lib.hid hb
  obtain ⟨a, cap, rfl, hc, hm, -⟩ := h
  have hm2 : l.length ≤ 9223372036854775807 := by unfold maxLen at hm; omega
  have hwl : ∀ x ∈ l.map genWhole, x.length ≤ 16777300 := fun x hx => by
    obtain ⟨g, hg, rfl⟩ := List.mem_map.1 hx
    unfold genWhole
    rw [wrap_len]
    have h1 := hb g hg
    have := len_small _ h1
    omega
  have hfl : ∀ j, (genAll (l.take j)).length ≤ 100000 * 16777300 := fun j => by
    unfold genAll
    rw [List.map_take]
    have : ∀ ls : List (List UInt8), (∀ x ∈ ls, x.length ≤ 16777300) → ls.flatten.length ≤ ls.length * 16777300 := by
      intro ls
      induction ls with
      | nil => simp
      | cons x t ih =>
        intro h
        have h1 := h x (by simp)
        have h2 := ih (fun y hy => h y (by simp [hy]))
        simp only [List.flatten_cons, List.length_append, List.length_cons]
        omega
    have h1 := this ((l.map genWhole).take j) (fun x hx => hwl x (List.mem_of_mem_take hx))
    have h2 : ((l.map genWhole).take j).length ≤ 100000 := by rw [List.length_take, List.length_map]; omega
    exact Nat.le_trans h1 (Nat.mul_le_mul_right 16777300 h2)
  have HFL := Lib.hid hfl
  have HWL := Lib.hid hwl
  clear hf hok hb hwl hfl
  go_enter Tryz.func49, Tryz.ntmps49
  go_wp2_with fail
  go_loopg [3, 4] l.length (fun g u i wr => ∃ (j : Nat) (a2 : Option Addr) (c2 : Nat) (ws : List UInt8), g = l.length - j ∧ j ≤ l.length ∧ u = .slice a2 ws.length c2 ∧ i = .int .i64 j ∧ wr.ownsRow w.heap.size 5 1 (.slice a2 ws.length c2) ws.length (Lib.byteCells ws) ∧ Hid (ws = genAll (l.take j)) ∧ Fr (fun _ => False) w wr)
  case atStart => exact ⟨0, none, 0, [], rfl, Nat.zero_le _, rfl, rfl, ⟨rfl, .inl ⟨rfl, rfl⟩⟩, Lib.hid rfl, Fr.refl _⟩
  case round =>
    obtain ⟨j, a2, c2, ws, hg, hj, rfl, rfl, ho, HWS, F⟩ := hrel
    have HG := Lib.hid hg
    have HF := Lib.hid F
    have hlj : ws.length ≤ 100000 * 16777300 := by have := HFL.out j; rw [HWS.out]; exact this
    have HOW := Lib.hid ho
    clear hg ho
    by_cases hjl : j < l.length
    · obtain ⟨x, hx⟩ : ∃ x, l[j]? = some x := ⟨_, List.getElem?_eq_getElem hjl⟩
      obtain ⟨b, o, ab, cb, an, cn, rfl, -, hga, e0, e1, e2⟩ := (H.out.old F).get hx
      have r1 : (0 : Int) ≤ (j : Int) := by omega
      have r2 : (j : Int) < (l.length : Int) := by omega
      have hm := List.mem_of_getElem? hx
      have HR := Lib.hid (r15Write_any _ x wr hga (HFW.out x hm) (HOK.out x hm) (HBD.out x hm))
      have hxl := HWL.out (genWhole x) (List.mem_map.2 ⟨x, hm, rfl⟩)
      have HFT := Lib.hid (genAll_take hx)
      clear hx hga hm F
      generalize genWhole x = gw at *
      go_wp2_with fail
      refine HR.out.mono ?_
      rintro e w2 ⟨⟨a3, c3, rfl, ho3⟩, F2⟩
      have hown2 := ownsRow_fr HOW.out F2 (fun _ _ h => h)
      obtain ⟨v7, w7, hr7, ho7, F7, -⟩ := append_bytes hown2 a3 _ c3 gw (Vals.of_own ho3).1 (by omega) (HF.out.trans F2).size
      have HF7 := Lib.hid ((HF.out.trans F2).trans' F7 (fun i hi e => by have := ((Vals.of_own hown2).2 i e).1; omega))
      obtain ⟨a7, n7, c7, rfl, rfl⟩ := own_shape ho7
      rw [← List.length_append] at ho7
      have HO7 := Lib.hid ho7
      have HW7 := Lib.hid (show ws ++ gw = genAll (l.take (j + 1)) by rw [HFT.out, ← HWS.out])
      have HRUN := Lib.hid hr7
      clear F2 ho3 hown2 hr7 ho7 F7 e0 e1 e2 HR
      go_wp2_with (at_builtin; refine wpList_append_run (by rfl) (.tmp 11) (.tmp 16) 23 (by rfl) _ w7 (by exact HRUN.out) ?_)
      go_roundg (l.length - (j + 1))
      case measure => rw [HG.out]; omega
      case rel => exact ⟨j + 1, a7, c7, ws ++ gw, rfl, by omega, by rw [List.length_append], by go_num, HO7.out, HW7, HF7.out⟩
    · have hws := HWS.out
      rw [List.take_of_length_le (by omega)] at hws
      have HW := Lib.hid hws
      clear hws hlj
      go_wp2_with fail
      go_ret
      rw [← HW.out]
      exact ⟨⟨a2, c2, rfl, HOW.out⟩, F⟩
end Go.Proofs.YtacekpdjapgfcaaGreatDoor

namespace Go.Proofs.YtacekpdjapgfcaaGreatDoor
open Go Go.RowKit Go.Q
set_option linter.unusedSimpArgs false
theorem genAll_part (l : List Gen) (j : Nat) : (genAll (l.take j)).length ≤ (genAll l).length := by
  unfold genAll
  rw [List.map_take]
  have h : (l.map genWhole).flatten = ((l.map genWhole).take j).flatten ++ ((l.map genWhole).drop j).flatten := by rw [← List.flatten_append, List.take_append_drop]
  rw [h, List.length_append]
  omega
theorem gen_part {l : List Gen} {g : Gen} (h : g ∈ l) : (genWhole g).length ≤ (genAll l).length := mem_flat (List.mem_map.2 ⟨g, h, rfl⟩)
set_option maxRecDepth 100000 in
set_option maxHeartbeats 4000000 in
theorem genWriteAll_any (v : Value) (l : List Gen) (w : World) (h : Gens w v l) (hf : ∀ g ∈ l, fewG g) (hb : allOkS l = true → (genAll l).length ≤ 16777216) :
    Calls Tryz.prog 46 #[v] w fun e w' => ((allOkS l = false ∧ e = .returned (.tuple #[.slice none 0 0, .int .i64 1])) ∨ (allOkS l = true ∧ ∃ a c, e = .returned (.tuple #[.slice a (genAll l).length c, .int .i64 0]) ∧ w'.ownsRow w.heap.size 5 1 (.slice a (genAll l).length c) (genAll l).length (Lib.byteCells (genAll l)))) ∧ Fr (fun _ => False) w w' := by
  have H := Lib.hid h
  have HFW := Lib.hid hf
  have HBD := Lib.hid hb
  obtain ⟨a, cap, rfl, hc, hm, -⟩ := h
  have hm2 : l.length ≤ 9223372036854775807 := by unfold maxLen at hm; omega
  have HAO := Lib.hid (show allOkS l = (l.all genOk && decide (0 < l.length ∧ l.length ≤ 10000)) from rfl)
  have hcase : (allOkS l = false ∧ l.length = 0) ∨ (allOkS l = false ∧ 0 < l.length ∧ 10000 < l.length) ∨ (0 < l.length ∧ l.length ≤ 10000) := by
    rcases Nat.eq_zero_or_pos l.length with h0 | h0
    · refine .inl ⟨?_, h0⟩
      rw [HAO.out, decide_eq_false (show ¬ (0 < l.length ∧ l.length ≤ 10000) by omega), Bool.and_false]
    · by_cases h1 : l.length ≤ 10000
      · exact .inr (.inr ⟨h0, h1⟩)
      · refine .inr (.inl ⟨?_, h0, by omega⟩)
        rw [HAO.out, decide_eq_false (show ¬ (0 < l.length ∧ l.length ≤ 10000) by omega), Bool.and_false]
  have HCS := Lib.hid hcase
  clear hf hb hc hm hcase
  rcases HCS.out with ⟨hao, h0⟩ | ⟨hao, h0, h1⟩ | ⟨h0, h1⟩
  case inl =>
    have q1 : ((l.length : Int) == 0) = true := by rw [h0]; rfl
    have HA := Lib.hid hao
    clear hao h0
    go_enter Tryz.func46, Tryz.ntmps46
    go_wp2_with fail
    exact bodyPost_ret (v := .tuple #[.slice none 0 0, .int .i64 1]) (by simp [results, Tryz.results46, go_sem]) rfl ⟨.inl ⟨HA.out, rfl⟩, Fr.refl _⟩
  case inr.inl =>
    have q1 : ((l.length : Int) == 0) = false := beq_eq_false_iff_ne.2 (by omega)
    have q2 : (10000 : Int) < (l.length : Int) := by omega
    have HA := Lib.hid hao
    clear hao h0
    go_enter Tryz.func46, Tryz.ntmps46
    go_wp2_with fail
    exact bodyPost_ret (v := .tuple #[.slice none 0 0, .int .i64 1]) (by simp [results, Tryz.results46, go_sem]) rfl ⟨.inl ⟨HA.out, rfl⟩, Fr.refl _⟩
  have q1 : ((l.length : Int) == 0) = false := beq_eq_false_iff_ne.2 (by omega)
  have q2 : ¬ (10000 : Int) < (l.length : Int) := by omega
  have HLE := Lib.hid (decide_eq_true (show 0 < l.length ∧ l.length ≤ 10000 from ⟨h0, h1⟩))
  have HL1 := Lib.hid h1
  clear h0 h1 HCS
  go_enter Tryz.func46, Tryz.ntmps46
  go_wp2_with fail
  go_loopg [21] l.length (fun g i wr => ∃ j : Nat, g = l.length - j ∧ j ≤ l.length ∧ i = .int .i64 j ∧ (∀ x ∈ l.take j, genOk x = true) ∧ Fr (fun _ => False) w wr)
  case atStart => exact ⟨0, rfl, Nat.zero_le _, rfl, by simp, Fr.refl _⟩
  case round =>
    obtain ⟨j, hg, hj, rfl, he, F⟩ := hrel
    have HG := Lib.hid hg
    have HE := Lib.hid he
    have HF := Lib.hid F
    clear hg he
    by_cases hjl : j < l.length
    · obtain ⟨x, hx⟩ : ∃ x, l[j]? = some x := ⟨_, List.getElem?_eq_getElem hjl⟩
      obtain ⟨b, o, ab, cb, an, cn, rfl, -, hga, e0, e1, e2⟩ := (H.out.old F).get hx
      have r1 : (0 : Int) ≤ (j : Int) := by omega
      have r2 : (j : Int) < (l.length : Int) := by omega
      have Fa : Fr (fun _ => False) wr (wr.alloc (.cells #[.int .i64 x.k, .slice ab x.b.length cb, .slice an x.n.length cn] 42)) := (Fr.refl wr).alloc _
      have HR := Lib.hid (genRight_any _ x _ (hga.old Fa) (HFW.out x (List.mem_of_getElem? hx)))
      have HX := Lib.hid hx
      obtain ⟨d, hd⟩ : ∃ d, d = genOk x := ⟨_, rfl⟩
      rw [← hd] at HR
      have HD := Lib.hid hd
      have HFa := Lib.hid (HF.out.trans Fa)
      clear hx hga hd F Fa
      go_wp2_with fail
      refine HR.out.mono ?_
      rintro e w2 ⟨rfl, F2⟩
      have HF2 := Lib.hid (HFa.out.trans F2)
      clear F2 e0 e1 e2 HR HFa
      cases d with
      | false =>
        have HN := Lib.hid (show l.all genOk = false from List.all_eq_false.2 ⟨x, List.mem_of_getElem? HX.out, by rw [← HD.out]; exact Bool.false_ne_true⟩)
        go_wp2_with fail
        exact bodyPost_ret (v := .tuple #[.slice none 0 0, .int .i64 1]) (by simp [results, Tryz.results46, go_sem]) rfl ⟨.inl ⟨by rw [HAO.out, HN.out, Bool.false_and], rfl⟩, HF2.out⟩
      | true =>
        have HN := Lib.hid (show ∀ y ∈ l.take (j + 1), genOk y = true from fun y hy => by
          rw [List.take_add_one, HX.out] at hy
          rcases List.mem_append.1 hy with h | h
          · exact HE.out y h
          · simp at h
            rw [h]
            exact HD.out.symm)
        go_wp2_with fail
        go_roundg (l.length - (j + 1))
        case measure => rw [HG.out]; omega
        case rel => exact ⟨j + 1, rfl, by omega, by go_num, HN.out, HF2.out⟩
    · have hall := HE.out
      rw [List.take_of_length_le (by omega)] at hall
      have HN := Lib.hid (show l.all genOk = true from List.all_eq_true.2 hall)
      have HOK := Lib.hid hall
      have HAT := Lib.hid (show allOkS l = true by rw [HAO.out, HN.out, HLE.out]; rfl)
      have HSZ := Lib.hid (HBD.out HAT.out)
      obtain ⟨w1, hw1⟩ : ∃ w1, w1 = wr := ⟨_, rfl⟩
      rw [← hw1] at F ⊢
      have HF1 := Lib.hid F
      clear hall hw1 F HF HE HG hj
      have hjj : ¬ (j : Int) < (l.length : Int) := by omega
      clear hjl
      go_wp2_with fail
      go_loopg [6, 31] l.length (fun g u i wr => ∃ (j : Nat) (a2 : Option Addr) (c2 : Nat) (ws : List UInt8), g = l.length - j ∧ j ≤ l.length ∧ u = .slice a2 ws.length c2 ∧ i = .int .i64 j ∧ wr.ownsRow w.heap.size 5 1 (.slice a2 ws.length c2) ws.length (Lib.byteCells ws) ∧ Hid (ws = genAll (l.take j)) ∧ Fr (fun _ => False) w wr)
      case atStart => exact ⟨0, none, 0, [], rfl, Nat.zero_le _, rfl, rfl, ⟨rfl, .inl ⟨rfl, rfl⟩⟩, Lib.hid rfl, HF1.out⟩
      case round =>
        obtain ⟨j, a2, c2, ws, hg, hj, rfl, rfl, ho, HWS, F⟩ := hrel
        have HG := Lib.hid hg
        have HF := Lib.hid F
        have HOW := Lib.hid ho
        clear hg ho hjj
        by_cases hjl : j < l.length
        · obtain ⟨x, hx⟩ : ∃ x, l[j]? = some x := ⟨_, List.getElem?_eq_getElem hjl⟩
          obtain ⟨b, o, ab, cb, an, cn, rfl, -, hga, e0, e1, e2⟩ := (H.out.old F).get hx
          have r1 : (0 : Int) ≤ (j : Int) := by omega
          have r2 : (j : Int) < (l.length : Int) := by omega
          have hm := List.mem_of_getElem? hx
          have Fa : Fr (fun _ => False) wr (wr.alloc (.cells #[.int .i64 x.k, .slice ab x.b.length cb, .slice an x.n.length cn] 42)) := (Fr.refl wr).alloc _
          have hxl := gen_part hm
          have hbl := body_le_whole x
          have hsz := HSZ.out
          have HR := Lib.hid (genWrite_ok _ x _ (hga.old Fa) (HFW.out x hm) (HOK.out x hm) (by omega))
          have HFa := Lib.hid (HF.out.trans Fa)
          have HFb := Lib.hid Fa
          have HFT := Lib.hid (genAll_take hx)
          have hpt : ws.length + (genWhole x).length ≤ 16777216 := by
            have h1 := genAll_part l (j + 1)
            rw [HFT.out, ← HWS.out, List.length_append] at h1
            omega
          clear hx hga hm F Fa hxl hbl hsz
          generalize genWhole x = gw at *
          have q5 : ¬ (16777216 : Int) < ((ws.length + gw.length : Nat) : Int) := by omega
          have q6 : ¬ (16777216 : Int) < (ws.length : Int) + (gw.length : Int) := by omega
          go_wp2_with fail
          refine HR.out.mono ?_
          rintro e w2 ⟨⟨a3, c3, rfl, ho3⟩, F2⟩
          have hown2 := ownsRow_fr (ownsRow_fr HOW.out HFb.out (fun _ _ h => h)) F2 (fun _ _ h => h)
          obtain ⟨v7, w7, hr7, ho7, F7, -⟩ := append_bytes hown2 a3 _ c3 gw (Vals.of_own ho3).1 (by omega) (HFa.out.trans F2).size
          have HF7 := Lib.hid ((HFa.out.trans F2).trans' F7 (fun i hi e => by have := ((Vals.of_own hown2).2 i e).1; omega))
          obtain ⟨a7, n7, c7, rfl, rfl⟩ := own_shape ho7
          rw [← List.length_append] at ho7
          have HO7 := Lib.hid ho7
          have HW7 := Lib.hid (show ws ++ gw = genAll (l.take (j + 1)) by rw [HFT.out, ← HWS.out])
          have HRUN := Lib.hid hr7
          clear F2 ho3 hown2 hr7 ho7 F7 e0 e1 e2 HR
          go_wp2_with (at_builtin; refine wpList_append_run (by rfl) (.tmp 43) (.tmp 44) 23 (by rfl) _ w7 (by exact HRUN.out) ?_)
          go_roundg (l.length - (j + 1))
          case measure => rw [HG.out]; omega
          case rel => exact ⟨j + 1, a7, c7, ws ++ gw, rfl, by omega, by rw [List.length_append], by go_num, HO7.out, HW7, HF7.out⟩
        · have hws := HWS.out
          rw [List.take_of_length_le (by omega)] at hws
          have HW := Lib.hid hws
          clear hws
          go_wp2_with fail
          refine bodyPost_ret (v := .tuple #[.slice a2 ws.length c2, .int .i64 0]) (by simp [results, Tryz.results46, go_sem]) rfl ?_
          rw [← HW.out]
          exact ⟨.inr ⟨HAT.out, a2, c2, rfl, HOW.out⟩, F⟩
set_option maxRecDepth 20000 in
set_option maxHeartbeats 4000000 in
theorem genWriteList_any (v : Value) (l : List Gen) (w : World) (h : Gens w v l) (hf : ∀ g ∈ l, fewG g) (hb : allOkS l = true → (genAll l).length ≤ 16777216) :
    Calls Tryz.prog 47 #[v] w fun e w' => ((allOkS l = false ∧ e = .returned (.tuple #[.slice none 0 0, .int .i64 1])) ∨ (allOkS l = true ∧ ∃ a c, e = .returned (.tuple #[.slice a (wrapS (tagOf 16) (genAll l)).length c, .int .i64 0]) ∧ w'.ownsRow w.heap.size 5 1 (.slice a (wrapS (tagOf 16) (genAll l)).length c) (wrapS (tagOf 16) (genAll l)).length (Lib.byteCells (wrapS (tagOf 16) (genAll l))))) ∧ Fr (fun _ => False) w w' := by
  have HW := Lib.hid (genWriteAll_any v l w h hf hb)
  have HBD := Lib.hid hb
  clear h hf hb
  go_enter Tryz.func47, Tryz.ntmps47
  go_wp2_with fail
  refine HW.out.mono ?_
  rintro e w1 ⟨⟨ha, rfl⟩ | ⟨ha, a, c, rfl, ho⟩, F1⟩
  · have HA := Lib.hid ha
    clear ha
    go_wp2_with fail
    exact bodyPost_ret (v := .tuple #[.slice none 0 0, .int .i64 1]) (by simp [results, Tryz.results47, go_sem]) rfl ⟨.inl ⟨HA.out, rfl⟩, F1⟩
  · have HA := Lib.hid ha
    have hsz := HBD.out ha
    have HS := Lib.hid (sequence_any _ [genAll l] _ (Parts.one (Vals.of_own ho).1) (by simpa using hsz) (by simp))
    rw [List.flatten_singleton] at HS
    have HF := Lib.hid (F1.alloc (.cells #[.slice a (genAll l).length c] 23))
    clear ha ho F1 hsz
    go_wp2_with fail
    refine HS.out.mono ?_
    rintro e w2 ⟨v2, rfl, ho2, F2⟩
    obtain ⟨av, m4, cv, rfl, rfl⟩ := own_shape ho2
    have HOW := Lib.hid (own_le ho2 (base' := w.heap.size) HF.out.size)
    have HF2 := Lib.hid (HF.out.trans F2)
    clear ho2 F2
    go_wp2_with fail
    exact bodyPost_ret (v := .tuple #[.slice av (wrapS (tagOf 16) (genAll l)).length cv, .int .i64 0]) (by simp [results, Tryz.results47, go_sem]) rfl ⟨.inr ⟨HA.out, av, cv, rfl, HOW.out⟩, HF2.out⟩
end Go.Proofs.YtacekpdjapgfcaaGreatDoor

namespace Go.Q
open Go Go.RowKit
theorem cutGen_len (g : Gen) : (cutGen g).b.length ≤ 300 ∧ (cutGen g).n.length ≤ 5 ∧ (∀ r ∈ (cutGen g).n, r.length ≤ 20) ∧ ∀ r ∈ (cutGen g).n, ∀ p ∈ r, p.b.length ≤ 200 := by
  refine ⟨?_, ?_, fun r hr => ?_, cutName_200 _⟩
  · show (g.b.take 300).length ≤ 300
    rw [List.length_take]
    omega
  · show (cutName (g.n.take 5)).length ≤ 5
    unfold cutName
    rw [List.length_map, List.length_take, List.length_take]
    omega
  · obtain ⟨q, -, rfl⟩ := List.mem_map.1 hr
    exact cutStep_len q
theorem cutGen_few (g : Gen) : fewG (cutGen g) := ⟨by have := (cutGen_len g).1; omega, fun r hr p hp => by have := (cutGen_len g).2.2.2 r hr p hp; omega⟩
theorem few_few {l : List Gen} : ∀ g ∈ fewS l, fewG g := fun g hg => by
  obtain ⟨q, -, rfl⟩ := List.mem_map.1 hg
  exact cutGen_few q
theorem few_len (l : List Gen) : (fewS l).length ≤ 20 := by
  unfold fewS
  rw [List.length_map, List.length_take]
  omega
theorem few_big {l : List Gen} : ∀ g ∈ fewS l, g.n.length ≤ 1000000 ∧ ∀ r ∈ g.n, r.length ≤ 1000000 := fun g hg => by
  obtain ⟨q, -, rfl⟩ := List.mem_map.1 hg
  obtain ⟨-, h1, h2, -⟩ := cutGen_len q
  exact ⟨by omega, fun r hr => by have := h2 r hr; omega⟩
theorem name_room_at {n : List (List Part)} (h : nameOk n = true) (hb : ∀ r ∈ n, ∀ p ∈ r, p.b.length ≤ 200) {k : Nat} (hk : n.length ≤ k) : (wholesN n).flatten.length ≤ k * 8102 := by
  obtain ⟨h1, h2⟩ := name_rdns h
  have h3 := flat_room (m := 8102) (ls := wholesN n) (fun x hx => by
    obtain ⟨r, hr, rfl⟩ := List.mem_map.1 hx
    obtain ⟨ws, hws⟩ := Option.isSome_iff_exists.1 (h2 r hr)
    rw [hws]
    exact (rdn_room hws (hb r hr)).2)
  have h4 : (wholesN n).length * 8102 ≤ k * 8102 := Nat.mul_le_mul_right 8102 (by simp [wholesN]; omega)
  exact Nat.le_trans h3 h4
end Go.Q
namespace Go.Proofs.YtacekpdjapgfcaaGreatDoor
open Go Go.RowKit Go.Q
theorem cut_body {g : Gen} (h : genOk (cutGen g) = true) : (genBody (cutGen g)).length ≤ 41000 := by
  obtain ⟨h1, h2, -, h4⟩ := cutGen_len g
  by_cases hk : (cutGen g).k = 4
  · have hn : nameOk (cutGen g).n = true := by
      unfold genOk at h
      rw [if_pos hk, Bool.and_eq_true] at h
      exact h.2
    have hr := name_room_at hn h4 h2
    have hb : genBody (cutGen g) = nameWhole (cutGen g).n := if_pos hk
    have hl := len_small (wholesN (cutGen g).n).flatten.length (by omega)
    rw [hb]
    unfold nameWhole
    rw [wrap_len]
    omega
  · have hb : genBody (cutGen g) = (cutGen g).b := if_neg hk
    rw [hb]
    omega
theorem few_ok {l : List Gen} (h : allOkS (fewS l) = true) : ∀ g ∈ fewS l, genOk g = true := by
  unfold allOkS at h
  rw [Bool.and_eq_true] at h
  exact List.all_eq_true.1 h.1
theorem few_body {l : List Gen} (h : allOkS (fewS l) = true) : ∀ g ∈ fewS l, (genBody g).length ≤ 41000 := fun g hg => by
  have ho := few_ok h g hg
  obtain ⟨q, -, rfl⟩ := List.mem_map.1 hg
  exact cut_body ho
theorem few_room {l : List Gen} (h : allOkS (fewS l) = true) : (genAll (fewS l)).length ≤ 821000 := by
  have h3 := flat_room (m := 41050) (ls := (fewS l).map genWhole) (fun x hx => by
    obtain ⟨g, hg, rfl⟩ := List.mem_map.1 hx
    have h1 := few_body h g hg
    have h2 := len_small (genBody g).length (by omega)
    unfold genWhole
    rw [wrap_len]
    omega)
  have h4 : ((fewS l).map genWhole).length * 41050 ≤ 20 * 41050 := Nat.mul_le_mul_right 41050 (by rw [List.length_map]; exact few_len l)
  have h5 : (genAll (fewS l)).length = ((fewS l).map genWhole).flatten.length := rfl
  omega
theorem few_read {l : List Gen} (h : allOkS (fewS l) = true) : genAllS (genAll (fewS l)) = .ok (fewS l) := by
  have h0 := few_ok h
  have h1 := few_body h
  have h2 := few_len l
  refine genAll_fwd (fun g hg => ⟨h0 g hg, by have := h1 g hg; omega, fun r hr p hp => ?_⟩) ?_ (by omega)
  · obtain ⟨q, -, rfl⟩ := List.mem_map.1 hg
    have := (cutGen_len q).2.2.2 r hr p hp
    omega
  · intro e
    rw [e] at h
    cases h
theorem few_list {l : List Gen} (h : allOkS (fewS l) = true) : genListS (wrapS (tagOf 16) (genAll (fewS l))) = .ok (fewS l, (wrapS (tagOf 16) (genAll (fewS l))).length) := by
  have hr := few_room h
  have ho := open_fwd (t := tagOf 16) (good_of (by omega) (by omega)) (y := genAll (fewS l)) (by omega) []
  rw [List.append_nil] at ho
  unfold genListS
  rw [ho]
  simp only [few_read h]
end Go.Proofs.YtacekpdjapgfcaaGreatDoor

namespace Go.Proofs.YtacekpdjapgfcaaGreatDoor
open Go Go.RowKit Go.Q
set_option linter.unusedSimpArgs false
theorem readAll_ok {w : World} {c : Nat} {K : Nat → Prop} {bs : List UInt8} {gs : List Gen} (h : CurAt w c K bs 0) (hbs : bs.length ≤ 10000000) (hr : genAllS bs = .ok gs) :
    Calls Tryz.prog 21 #[pt c] w fun e w' => (∃ a cc, e = .returned (.tuple #[.slice a gs.length cc, .int .i64 0]) ∧ Gens w' (.slice a gs.length cc) gs) ∧ Fr (fun k => k = c) w w' := by
  have h1 := readAll_one h hbs
  rw [List.drop_zero, hr] at h1
  exact h1.mono fun e w' ⟨⟨a, cc, he, hk, _⟩, F⟩ => ⟨⟨a, cc, he, hk.now⟩, F⟩
theorem readList_ok {w : World} {c : Nat} {K : Nat → Prop} {bs : List UInt8} {gs : List Gen} {n : Nat} (h : CurAt w c K bs 0) (hbs : bs.length ≤ 10000000) (hr : genListS bs = .ok (gs, n)) :
    Calls Tryz.prog 23 #[pt c] w fun e w' => (∃ a cc, e = .returned (.tuple #[.slice a gs.length cc, .int .i64 0]) ∧ Gens w' (.slice a gs.length cc) gs) ∧ Fr (fun k => k = c) w w' := by
  have h1 := readList_one h hbs
  rw [List.drop_zero, hr] at h1
  exact h1.mono fun e w' ⟨⟨a, cc, he, hk, _⟩, F⟩ => ⟨⟨a, cc, he, hk.now⟩, F⟩
set_option maxRecDepth 100000 in
set_option maxHeartbeats 8000000 in
theorem glWalk_any (v : Value) (l : List Gen) (w : World) (h : Gens w v l) (hE : Env w) :
    Calls Tryz.prog 8 #[v] w fun e w' => e = .returned (.bool true) ∧ Fr (fun _ => False) w w' := by
  have HE := Lib.hid hE
  have HO := Lib.hid (lawFew_any v l w h)
  obtain ⟨gs, hgs⟩ : ∃ gs, gs = fewS l := ⟨_, rfl⟩
  have hfw := few_few (l := l)
  have hbg := few_big (l := l)
  have hln := few_len l
  have hrm := few_room (l := l)
  have hok := few_ok (l := l)
  have hbd := few_body (l := l)
  have hrd := few_read (l := l)
  have hls := few_list (l := l)
  rw [← hgs] at HO hfw hbg hln hrm hok hbd hrd hls
  have HFW := Lib.hid hfw
  have HBG := Lib.hid hbg
  have HLN := Lib.hid hln
  obtain ⟨d, hd⟩ : ∃ d, allOkS gs = d := ⟨_, rfl⟩
  rw [hd] at hrm hok hbd hrd hls
  have HRM := Lib.hid hrm
  have HOK := Lib.hid hok
  have HBD := Lib.hid hbd
  have HRD := Lib.hid hrd
  have HLS := Lib.hid hls
  have HD := Lib.hid hd
  have HBX := Lib.hid (show allOkS gs = true → (genAll gs).length ≤ 16777216 from fun e => by have := hrm (hd.symm.trans e); omega)
  clear h hE hgs hfw hbg hln hrm hok hbd hrd hls hd
  go_enter Tryz.func8, Tryz.ntmps8
  go_wp2_with fail
  refine HO.out.mono ?_
  rintro e w1 ⟨⟨a1, c1, rfl, hx⟩, F1⟩
  have HG1 := Lib.hid hx
  have HF1 := Lib.hid F1
  clear HO hx F1
  have HO := Lib.hid (lawAll_any _ gs w1 HG1.out HBG.out (by have := HLN.out; omega))
  go_wp2_with fail
  refine HO.out.mono ?_
  rintro e w2 ⟨⟨a2, c2, rfl, hx⟩, F2⟩
  have HR2 := Lib.hid hx
  have HG2 := Lib.hid (HG1.out.old F2)
  have HF2 := Lib.hid (HF1.out.trans F2)
  clear HO hx F2 HG1 HF1
  have HO := Lib.hid (genWriteAll_any _ gs w2 HG2.out HFW.out HBX.out)
  rw [HD.out] at HO
  cases d with
  | false =>
    go_wp2_with fail
    refine HO.out.mono ?_
    rintro e w3 ⟨⟨-, rfl⟩ | ⟨hf, -⟩, F3⟩
    case inr => cases hf
    have HR3 := Lib.hid (HR2.out.old F3)
    have HG3 := Lib.hid (HG2.out.old F3)
    have HF3 := Lib.hid (HF2.out.trans F3)
    clear HO F3 HG2 HF2 HR2
    have HO := Lib.hid (genWriteList_any _ gs w3 HG3.out HFW.out HBX.out)
    rw [HD.out] at HO
    go_wp2_with fail
    refine HO.out.mono ?_
    rintro e w4 ⟨⟨-, rfl⟩ | ⟨hf, -⟩, F4⟩
    case inr => cases hf
    have HR4 := Lib.hid (HR3.out.old F4)
    have HF4 := Lib.hid (HF3.out.trans F4)
    clear HO F4 HG3 HF3 HR3
    have HO := Lib.hid (r15All_any _ gs w4 HR4.out HFW.out)
    rw [HD.out] at HO
    go_wp2_with fail
    refine HO.out.mono ?_
    rintro e w5 ⟨rfl, F5⟩
    have HF5 := Lib.hid (HF4.out.trans F5)
    clear HO F5 HR4 HF4
    have HK := Lib.hid (gnKnown_any _ (HE.out.old HF5.out))
    go_wp2_with fail
    refine HK.out.mono ?_
    rintro e w6 ⟨rfl, F6⟩
    have HF6 := Lib.hid (HF5.out.trans F6)
    clear HK F6 HF5
    go_wp2_with fail
    go_ret
    exact ⟨rfl, HF6.out⟩
  | true =>
    have HRM1 := Lib.hid (HRM.out rfl)
    have HRD1 := Lib.hid (HRD.out rfl)
    have HLS1 := Lib.hid (HLS.out rfl)
    have HOK1 := Lib.hid (HOK.out rfl)
    have HBD1 := Lib.hid (HBD.out rfl)
    have HLO := Lib.hid (genWriteList_any _ gs w2 HG2.out HFW.out HBX.out)
    have HWL := Lib.hid (fun W F => genWriteList_any _ gs W (HG2.out.old F) HFW.out HBX.out)
    have HWA := Lib.hid (fun W F => r15WriteAll_any _ gs W (HR2.out.old F) HFW.out HOK1.out (fun g hg => by have := HBD1.out g hg; omega) (by have := HLN.out; omega))
    rw [HD.out] at HWL
    have HD2 := Lib.hid HD.out
    clear HRM HRD HLS HOK HBD HLO HBX HD
    have hwl : (wrapS (tagOf 16) (genAll gs)).length ≤ 900000 := by
      have h1 := HRM1.out
      have := len_small (genAll gs).length (by omega)
      rw [wrap_len]
      omega
    have hal : (genAll gs).length ≤ 900000 := by have := HRM1.out; omega
    generalize genAll gs = A at *
    generalize hW : wrapS (tagOf 16) A = V at *
    have HW := Lib.hid hW
    clear hW
    go_wp2_with fail
    refine HO.out.mono ?_
    rintro e w3 ⟨⟨hf, -⟩ | ⟨-, a3, c3, rfl, ho⟩, F3⟩
    · cases hf
    have HA3 := Lib.hid (Vals.of_own ho).1
    have HQ3 := Lib.hid F3
    have HF3 := Lib.hid (HF2.out.trans F3)
    clear HO F3 ho
    have HO := Lib.hid (HWL.out _ HQ3.out)
    go_wp2_with fail
    refine HO.out.mono ?_
    rintro e w4 ⟨⟨hf, -⟩ | ⟨-, a4, c4, rfl, ho⟩, F4⟩
    · cases hf
    have HV4 := Lib.hid (Vals.of_own ho).1
    have HA4 := Lib.hid (HA3.out.old F4)
    have HQ4 := Lib.hid (HQ3.out.trans F4)
    have HF4 := Lib.hid (HF3.out.trans F4)
    clear HO F4 ho HA3 HQ3 HF3 HWL
    have HO := Lib.hid (r15All_any _ gs w4 (HR2.out.old HQ4.out) HFW.out)
    rw [HD2.out] at HO
    go_wp2_with fail
    refine HO.out.mono ?_
    rintro e w5 ⟨rfl, F5⟩
    have HV5 := Lib.hid (HV4.out.old F5)
    have HA5 := Lib.hid (HA4.out.old F5)
    have HQ5 := Lib.hid (HQ4.out.trans F5)
    have HF5 := Lib.hid (HF4.out.trans F5)
    clear HO F5 HV4 HA4 HQ4 HF4
    go_wp2_with fail
    refine (new_any w5 _ A HA5.out (by omega)).mono ?_
    rintro e w6 ⟨rfl, C6, F6⟩
    have hs6 := F6.size
    obtain ⟨c, hcc⟩ : ∃ c, c = w5.heap.size := ⟨_, rfl⟩
    rw [← hcc] at C6 ⊢
    have HO := Lib.hid (readAll_ok C6 (by omega) HRD1.out)
    have HCC := Lib.hid hcc
    have HF6 := Lib.hid F6
    clear C6 F6 hcc
    go_wp2_with fail
    refine HO.out.mono ?_
    rintro e w7 ⟨⟨a7, c7, rfl, hx⟩, F7⟩
    have HG7 := Lib.hid hx
    have F57 : Fr (fun _ => False) w5 w7 := HF6.out.trans' F7 (fun i hi e => by have := HCC.out; omega)
    have HV7 := Lib.hid (HV5.out.old F57)
    have HA7 := Lib.hid (HA5.out.old F57)
    have HQ7 := Lib.hid (HQ5.out.trans F57)
    have HF7 := Lib.hid (HF5.out.trans F57)
    clear HO hx F7 F57 HV5 HA5 HQ5 HF5 HF6 HCC hs6
    go_wp2_with fail
    refine (new_any w7 _ V HV7.out (by omega)).mono ?_
    rintro e w8 ⟨rfl, C8, F8⟩
    obtain ⟨c, hcc⟩ : ∃ c, c = w7.heap.size := ⟨_, rfl⟩
    rw [← hcc] at C8 ⊢
    have HO := Lib.hid (readList_ok C8 (by omega) HLS1.out)
    have HCC := Lib.hid hcc
    have HF8 := Lib.hid F8
    clear C8 F8 hcc
    go_wp2_with fail
    refine HO.out.mono ?_
    rintro e w9 ⟨⟨a9, c9, rfl, hx⟩, F9⟩
    have HL9 := Lib.hid hx
    have F79 : Fr (fun _ => False) w7 w9 := HF8.out.trans' F9 (fun i hi e => by have := HCC.out; omega)
    have HG9 := Lib.hid (HG7.out.old F79)
    have HV9 := Lib.hid (HV7.out.old F79)
    have HA9 := Lib.hid (HA7.out.old F79)
    have HQ9 := Lib.hid (HQ7.out.trans F79)
    have HF9 := Lib.hid (HF7.out.trans F79)
    clear HO hx F9 F79 HG7 HV7 HA7 HQ7 HF7 HF8 HCC
    have HO := Lib.hid (HWA.out _ HQ9.out)
    go_wp2_with fail
    refine HO.out.mono ?_
    rintro e w10 ⟨⟨a10, c10, rfl, ho⟩, F10⟩
    have HB10 := Lib.hid (Vals.of_own ho).1
    have HL10 := Lib.hid (HL9.out.old F10)
    have HG10 := Lib.hid (HG9.out.old F10)
    have HV10 := Lib.hid (HV9.out.old F10)
    have HA10 := Lib.hid (HA9.out.old F10)
    have HR10 := Lib.hid (HR2.out.old (HQ9.out.trans F10))
    have HF10 := Lib.hid (HF9.out.trans F10)
    clear HO ho F10 HL9 HG9 HV9 HA9 HQ9 HF9 HWA
    have HK := Lib.hid (gnKnown_any _ (HE.out.old HF10.out))
    go_wp2_with fail
    refine HK.out.mono ?_
    rintro e w11 ⟨rfl, F⟩
    have HB11 := Lib.hid (HB10.out.old F)
    have HL11 := Lib.hid (HL10.out.old F)
    have HG11 := Lib.hid (HG10.out.old F)
    have HV11 := Lib.hid (HV10.out.old F)
    have HA11 := Lib.hid (HA10.out.old F)
    have HR11 := Lib.hid (HR10.out.old F)
    have HF11 := Lib.hid (HF10.out.trans F)
    clear HK F HB10 HL10 HG10 HV10 HA10 HR10 HF10
    have HO := Lib.hid (r01Same_any _ _ A A w11 HA11.out HB11.out)
    rw [decide_eq_true rfl] at HO
    go_wp2_with fail
    refine HO.out.mono ?_
    rintro e w12 ⟨rfl, F⟩
    have HB12 := Lib.hid (HB11.out.old F)
    have HL12 := Lib.hid (HL11.out.old F)
    have HG12 := Lib.hid (HG11.out.old F)
    have HV12 := Lib.hid (HV11.out.old F)
    have HR12 := Lib.hid (HR11.out.old F)
    have HF12 := Lib.hid (HF11.out.trans F)
    clear HO F HB11 HL11 HG11 HV11 HA11 HR11 HF11
    have HO := Lib.hid (r02Of_any 16 w12)
    go_wp2_with fail
    refine HO.out.mono ?_
    rintro e w13 ⟨rfl, F⟩
    have HB13 := Lib.hid (HB12.out.old F)
    have HL13 := Lib.hid (HL12.out.old F)
    have HG13 := Lib.hid (HG12.out.old F)
    have HV13 := Lib.hid (HV12.out.old F)
    have HR13 := Lib.hid (HR12.out.old F)
    have HF13 := Lib.hid (HF12.out.trans F)
    clear HO F HB12 HL12 HG12 HV12 HR12 HF12
    have HO := Lib.hid (r02Wrap_any (tagOf 16) (good_of (by omega) (by omega)) _ A w13 HB13.out (by omega))
    rw [HW.out] at HO
    go_wp2_with fail
    refine HO.out.mono ?_
    rintro e w14 ⟨v14, rfl, ho, F⟩
    obtain ⟨a14, m14, c14, rfl, rfl⟩ := own_shape ho
    have HY14 := Lib.hid (Vals.of_own ho).1
    have HL14 := Lib.hid (HL13.out.old F)
    have HG14 := Lib.hid (HG13.out.old F)
    have HV14 := Lib.hid (HV13.out.old F)
    have HR14 := Lib.hid (HR13.out.old F)
    have HF14 := Lib.hid (HF13.out.trans F)
    clear HO F ho HB13 HL13 HG13 HV13 HR13 HF13
    have HO := Lib.hid (r01Same_any _ _ V V w14 HV14.out HY14.out)
    rw [decide_eq_true rfl] at HO
    go_wp2_with fail
    refine HO.out.mono ?_
    rintro e w15 ⟨rfl, F⟩
    have HL15 := Lib.hid (HL14.out.old F)
    have HG15 := Lib.hid (HG14.out.old F)
    have HR15 := Lib.hid (HR14.out.old F)
    have HF15 := Lib.hid (HF14.out.trans F)
    clear HO F HL14 HG14 HV14 HY14 HR14 HF14
    have HO := Lib.hid (lawAll_any _ gs w15 HG15.out HBG.out (by have := HLN.out; omega))
    go_wp2_with fail
    refine HO.out.mono ?_
    rintro e w16 ⟨⟨a16, c16, rfl, hx⟩, F⟩
    have HL16 := Lib.hid (HL15.out.old F)
    have HR16 := Lib.hid (HR15.out.old F)
    have HF16 := Lib.hid (HF15.out.trans F)
    have HO := Lib.hid (gens_self _ _ gs w16 hx HR16.out)
    clear F hx HL15 HR15 HF15 HG15
    go_wp2_with fail
    refine HO.out.mono ?_
    rintro e w17 ⟨rfl, F⟩
    have HL17 := Lib.hid (HL16.out.old F)
    have HR17 := Lib.hid (HR16.out.old F)
    have HF17 := Lib.hid (HF16.out.trans F)
    clear HO F HL16 HR16 HF16
    have HO := Lib.hid (lawAll_any _ gs w17 HL17.out HBG.out (by have := HLN.out; omega))
    go_wp2_with fail
    refine HO.out.mono ?_
    rintro e w18 ⟨⟨a18, c18, rfl, hx⟩, F⟩
    have HF18 := Lib.hid (HF17.out.trans F)
    have HO := Lib.hid (gens_self _ _ gs w18 hx (HR17.out.old F))
    clear F hx HL17 HR17 HF17
    go_wp2_with fail
    refine HO.out.mono ?_
    rintro e w19 ⟨rfl, F⟩
    have HF19 := Lib.hid (HF18.out.trans F)
    clear HO F HF18
    go_wp2_with fail
    go_ret
    exact ⟨rfl, HF19.out⟩
end Go.Proofs.YtacekpdjapgfcaaGreatDoor
