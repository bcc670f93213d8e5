/-
  Merged by program: XR15K XNOut XNSmall XGrOut XGenL.
-/
import Derived.Test.YtacekpdjapgfcaaGreatDoorD0ao
import Derived.Test.YtacekpdjapgfcaaGreatDoorD0an
import Derived.Test.YtacekpdjapgfcaaGreatDoorD0am
import Derived.Deep.CutBlock
import Derived.Test.YtacekpdjapgfcaaGreatDoorD0af
import Derived.Test.YtacekpdjapgfcaaGreatDoorD0as
import Derived.Test.YtacekpdjapgfcaaGreatDoorD0at
namespace Go.Q
open Go Go.RowKit
instance : DecidableEq Gen := fun p q => if h : p.k = q.k ∧ p.b = q.b ∧ p.n = q.n then isTrue (by cases p; cases q; simp_all) else isFalse (fun e => h (by rw [e]; exact ⟨rfl, rfl, rfl⟩))
theorem gen_eq {p q : Gen} : p = q ↔ p.k = q.k ∧ p.b = q.b ∧ p.n = q.n := by
  constructor
  · rintro rfl
    exact ⟨rfl, rfl, rfl⟩
  · intro h
    cases p
    cases q
    simp_all
theorem list_like {α : Type} {a b : List α} (hl : a.length = b.length) (h : ∀ i : Nat, i < a.length → a[i]? = b[i]?) : a = b := by
  apply List.ext_getElem?
  intro i
  rcases Nat.lt_or_ge i a.length with hi | hi
  · exact h i hi
  · rw [List.getElem?_eq_none hi, List.getElem?_eq_none (by omega)]
end Go.Q
namespace Go.Proofs.YtacekpdjapgfcaaGreatDoor
open Go Go.RowKit Go.Q
set_option linter.unusedSimpArgs false
set_option maxRecDepth 100000 in
set_option maxHeartbeats 8000000 in
theorem r15Like_any (v u : Value) (a b : List Gen) (w : World) (ha : Gens w v a) (hb : Gens w u b) :
    Calls Tryz.prog 26 #[v, u] w fun e w' => e = .returned (.bool (decide (a = b))) ∧ Fr (fun _ => False) w w' := by
  have HA := Lib.hid ha
  have HB := Lib.hid hb
  obtain ⟨pa, ca, rfl, h1, h2, -⟩ := ha
  obtain ⟨pb, cb, rfl, h3, h4, -⟩ := hb
  have hal : a.length ≤ 9223372036854775807 := by unfold maxLen at h2; omega
  by_cases hlen : a.length = b.length
  case neg =>
    have q1 : ((a.length : Int) == (b.length : Int)) = false := beq_eq_false_iff_ne.2 (by omega)
    have q2 : ((a.length : Int) != (b.length : Int)) = true := by simp; omega
    have q3 : (a.length == b.length) = false := beq_eq_false_iff_ne.2 hlen
    have q4 : (a.length != b.length) = true := by simpa using hlen
    have HD := Lib.hid (decide_eq_false (show ¬ a = b from fun e => hlen (by rw [e])))
    clear hlen h1 h2 h3 h4
    go_enter Tryz.func26, Tryz.ntmps26
    go_wp2_with fail
    go_ret
    exact ⟨by rw [HD.out]; rfl, Fr.refl _⟩
  have q1 : ((a.length : Int) == (b.length : Int)) = true := by rw [hlen]; simp
  have q2 : ((a.length : Int) != (b.length : Int)) = false := by rw [hlen]; simp
  have q3 : (a.length == b.length) = true := by rw [hlen]; simp
  have q4 : (a.length != b.length) = false := by rw [hlen]; simp
  have HLEN := Lib.hid hlen
  clear hlen h1 h2 h3 h4
  go_enter Tryz.func26, Tryz.ntmps26
  go_wp2_with fail
  go_loopg [5] a.length (fun g i wr => ∃ j : Nat, g = a.length - j ∧ j ≤ a.length ∧ i = .int .i64 j ∧ (∀ k : Nat, k < j → a[k]? = b[k]?) ∧ Fr (fun _ => False) w wr)
  case atStart => exact ⟨0, rfl, Nat.zero_le _, rfl, fun k h => absurd h (Nat.not_lt_zero _), Fr.refl _⟩
  case round =>
    obtain ⟨j, hg, hj, rfl, hall, F⟩ := hrel
    have HG := Lib.hid hg
    have HAL := Lib.hid hall
    have HF := Lib.hid F
    clear hg hall q1 q2 q3 q4
    by_cases hjl : j < a.length
    · obtain ⟨x, hx⟩ : ∃ x, a[j]? = some x := ⟨_, List.getElem?_eq_getElem hjl⟩
      have hjb : j < b.length := by have := HLEN.out; omega
      obtain ⟨y, hy⟩ : ∃ y, b[j]? = some y := ⟨_, List.getElem?_eq_getElem hjb⟩
      obtain ⟨ba, oa, ab, cab, an, can, rfl, -, hga, e0, e1, e2⟩ := (HA.out.old F).get hx
      obtain ⟨bb, ob, bb2, cbb, bn, cbn, rfl, -, hgb, g0, g1, g2⟩ := (HB.out.old F).get hy
      have r1 : (0 : Int) ≤ (j : Int) := by omega
      have r2 : (j : Int) < (a.length : Int) := by omega
      have r3 : (j : Int) < (b.length : Int) := by omega
      obtain ⟨va, na, heq, hba, hna⟩ := hga
      simp only [Value.agg.injEq, Array.mk.injEq, List.cons.injEq, and_true, true_and] at heq
      obtain ⟨rfl, rfl⟩ := heq
      obtain ⟨vb, nb, heq, hbb, hnb⟩ := hgb
      simp only [Value.agg.injEq, Array.mk.injEq, List.cons.injEq, and_true, true_and] at heq
      obtain ⟨rfl, rfl⟩ := heq
      have HS := Lib.hid (fun W (f : Fr (fun _ => False) wr W) => r01Same_any _ _ x.b y.b W (hba.old f) (hbb.old f))
      have HN := Lib.hid (fun W (f : Fr (fun _ => False) wr W) => r14Like_any _ _ x.n y.n W (hna.old f) (hnb.old f))
      have HXY := Lib.hid (show a[j]? = some x ∧ b[j]? = some y from ⟨hx, hy⟩)
      clear hx hy hba hna hbb hnb
      have hcase : (x.k ≠ y.k) ∨ (x.k = y.k ∧ x.b ≠ y.b) ∨ (x.k = y.k ∧ x.b = y.b) := by
        by_cases hk : x.k = y.k
        · by_cases hb : x.b = y.b
          · exact .inr (.inr ⟨hk, hb⟩)
          · exact .inr (.inl ⟨hk, hb⟩)
        · exact .inl hk
      have bad : x ≠ y → decide (a = b) = false := fun h => decide_eq_false (fun e => by
        have h1 := HXY.out.1
        rw [e, HXY.out.2] at h1
        simp only [Option.some.injEq] at h1
        exact h h1.symm)
      have BAD := Lib.hid bad
      clear bad
      rcases hcase with hk | ⟨hk, hb⟩ | ⟨hk, hb⟩
      · have s1 : (x.k == y.k) = false := beq_eq_false_iff_ne.2 hk
        have s2 : (x.k != y.k) = true := by simpa using hk
        have HD := Lib.hid (BAD.out (fun e => hk (by rw [e])))
        clear hk
        go_upto_region 6 with fail
        go_quiet (fail)
        go_wp2_with fail
        go_ret
        exact ⟨by rw [HD.out]; rfl, HF.out.drewN nq⟩
      · have s1 : (x.k == y.k) = true := by rw [hk]; simp
        have s2 : (x.k != y.k) = false := by rw [hk]; simp
        have HD := Lib.hid (BAD.out (fun e => hb (by rw [e])))
        have hs2 := HS.out
        simp only [decide_eq_false hb] at hs2
        have HS2 := Lib.hid hs2
        clear hs2
        have HN2 := HN
        clear hk hb HS F
        have HCL := Lib.hid (fun W (f : Fr (fun _ => False) wr W) => (show W.cell? ⟨ba, oa + j * 3, none⟩ = some (.int .i64 x.k) ∧ W.cell? ⟨ba, oa + j * 3 + 1, none⟩ = some (.slice ab x.b.length cab) ∧ W.cell? ⟨ba, oa + j * 3 + 2, none⟩ = some (.slice an x.n.length can) ∧ W.cell? ⟨bb, ob + j * 3, none⟩ = some (.int .i64 y.k) ∧ W.cell? ⟨bb, ob + j * 3 + 1, none⟩ = some (.slice bb2 y.b.length cbb) ∧ W.cell? ⟨bb, ob + j * 3 + 2, none⟩ = some (.slice bn y.n.length cbn) from ⟨f.cell e0 (fun h => h), f.cell e1 (fun h => h), f.cell e2 (fun h => h), f.cell g0 (fun h => h), f.cell g1 (fun h => h), f.cell g2 (fun h => h)⟩))
        clear e0 e1 e2 g0 g1 g2
        go_upto_region 6 with fail
        have G : Fr (fun _ => False) wr wr.drew := (Fr.refl wr).drew
        refine wp_region_held_drew (S := (fun w' => w'.cell? ⟨ba, oa + j * 3, none⟩ = some (.int .i64 x.k) ∧ w'.cell? ⟨ba, oa + j * 3 + 1, none⟩ = some (.slice ab x.b.length cab) ∧ w'.cell? ⟨ba, oa + j * 3 + 2, none⟩ = some (.slice an x.n.length can) ∧ w'.cell? ⟨bb, ob + j * 3, none⟩ = some (.int .i64 y.k) ∧ w'.cell? ⟨bb, ob + j * 3 + 1, none⟩ = some (.slice bb2 y.b.length cbb) ∧ w'.cell? ⟨bb, ob + j * 3 + 2, none⟩ = some (.slice bn y.n.length cbn))) (by kernel_rfl) ?_ (fun hHeld => ?_)
        · exact HCL.out _ G
        refine wpAnyH_take (i := 0) (v := ?vq0) (held_at held_z) (by kernel_rfl) (by kernel_rfl) (by kernel_rfl) (fun _ _ _ h => h) (Or.inl ⟨by rfl, ?hyq0⟩) (by assumption) ?restq0
        case hyq0 => intro w9 hSw; (try dsimp only at hSw); go_simp; all_goals with_reducible rfl
        try simp only [Act.put, List.setIfInBounds_toArray, List.set_cons_zero, List.set_cons_succ]
        refine wpAnyH_take (i := 1) (v := ?vq1) (held_at (held_s held_z)) (by kernel_rfl) (by kernel_rfl) (by kernel_rfl) (fun _ _ _ h => h) (Or.inl ⟨by rfl, ?hyq1⟩) (by assumption) ?restq1
        case hyq1 => intro w9 hSw; (try dsimp only at hSw); go_simp; all_goals with_reducible rfl
        try simp only [Act.put, List.setIfInBounds_toArray, List.set_cons_zero, List.set_cons_succ]
        refine wpAnyH_take (i := 2) (v := ?vq2) (held_at (held_s (held_s held_z))) (by kernel_rfl) (by kernel_rfl) (by kernel_rfl) (fun _ _ _ h => h) (Or.inl ⟨by rfl, ?hyq2⟩) (by assumption) ?restq2
        case hyq2 => intro w9 hSw; (try dsimp only at hSw); go_simp; all_goals with_reducible rfl
        try simp only [Act.put, List.setIfInBounds_toArray, List.set_cons_zero, List.set_cons_succ]
        refine wpAnyH_take (i := 3) (v := ?vq3) (held_at (held_s (held_s (held_s held_z)))) (by kernel_rfl) (by kernel_rfl) (by kernel_rfl) (fun _ _ _ h => h) (Or.inl ⟨by rfl, ?hyq3⟩) (by assumption) ?restq3
        case hyq3 => intro w9 hSw; (try dsimp only at hSw); go_simp; all_goals with_reducible rfl
        try simp only [Act.put, List.setIfInBounds_toArray, List.set_cons_zero, List.set_cons_succ]
        refine wpAnyH_take (i := 4) (v := ?vq4) (held_at (held_s (held_s (held_s (held_s held_z))))) (by kernel_rfl) (by kernel_rfl) (by kernel_rfl) (fun _ _ _ h => h) (Or.inl ⟨by rfl, ?hyq4⟩) (by assumption) ?restq4
        case hyq4 => intro w9 hSw; (try dsimp only at hSw); go_simp; all_goals with_reducible rfl
        try simp only [Act.put, List.setIfInBounds_toArray, List.set_cons_zero, List.set_cons_succ]
        refine wpAnyH_take (i := 5) (v := ?vq5) (held_at (held_s (held_s (held_s (held_s (held_s held_z)))))) (by kernel_rfl) (by kernel_rfl) (by kernel_rfl) (fun _ _ _ h => h) (Or.inl ⟨by rfl, ?hyq5⟩) (by assumption) ?restq5
        case hyq5 => intro w9 hSw; (try dsimp only at hSw); go_simp; all_goals with_reducible rfl
        try simp only [Act.put, List.setIfInBounds_toArray, List.set_cons_zero, List.set_cons_succ]
        refine wpAnyH_take (i := 6) (v := ?vq6) (held_at (held_s (held_s (held_s (held_s (held_s (held_s held_z))))))) (by kernel_rfl) (by kernel_rfl) (by kernel_rfl) (fun _ _ _ h => h) (Or.inl ⟨by rfl, ?hyq6⟩) (by assumption) ?restq6
        case hyq6 => intro w9 hSw; (try dsimp only at hSw); go_simp; all_goals with_reducible rfl
        try simp only [Act.put, List.setIfInBounds_toArray, List.set_cons_zero, List.set_cons_succ]
        refine wpAnyH_take (i := 7) (v := ?vq7) (held_at (held_s (held_s (held_s (held_s (held_s (held_s (held_s held_z)))))))) (by kernel_rfl) (by kernel_rfl) (by kernel_rfl) (fun _ _ _ h => h) (Or.inl ⟨by rfl, ?hyq7⟩) (by assumption) ?restq7
        case hyq7 => intro w9 hSw; (try dsimp only at hSw); go_simp; all_goals with_reducible rfl
        try simp only [Act.put, List.setIfInBounds_toArray, List.set_cons_zero, List.set_cons_succ]
        refine wpAnyH_take (i := 8) (v := ?vq8) (held_at (held_s (held_s (held_s (held_s (held_s (held_s (held_s (held_s held_z))))))))) (by kernel_rfl) (by kernel_rfl) (by kernel_rfl) (fun _ _ _ h => h) (Or.inl ⟨by rfl, ?hyq8⟩) (by assumption) ?restq8
        case hyq8 => intro w9 hSw; (try dsimp only at hSw); go_simp; all_goals with_reducible rfl
        try simp only [Act.put, List.setIfInBounds_toArray, List.set_cons_zero, List.set_cons_succ]
        refine wpAnyH_take (i := 9) (v := ?vq9) (held_at (held_s (held_s (held_s (held_s (held_s (held_s (held_s (held_s (held_s held_z)))))))))) (by kernel_rfl) (by kernel_rfl) (by kernel_rfl) (fun _ _ _ h => h) (Or.inl ⟨by rfl, ?hyq9⟩) (by assumption) ?restq9
        case hyq9 => intro w9 hSw; (try dsimp only at hSw); go_simp; all_goals with_reducible rfl
        try simp only [Act.put, List.setIfInBounds_toArray, List.set_cons_zero, List.set_cons_succ]
        refine wpAnyH_take (i := 10) (v := ?vq10) (held_at (held_s (held_s (held_s (held_s (held_s (held_s (held_s (held_s (held_s (held_s held_z))))))))))) (by kernel_rfl) (by kernel_rfl) (by kernel_rfl) (fun _ _ _ h => h) (Or.inl ⟨by rfl, ?hyq10⟩) (by assumption) ?restq10
        case hyq10 => intro w9 hSw; (try dsimp only at hSw); go_simp; all_goals with_reducible rfl
        try simp only [Act.put, List.setIfInBounds_toArray, List.set_cons_zero, List.set_cons_succ]
        refine wpAnyH_take (i := 11) (v := ?vq11) (held_at (held_s (held_s (held_s (held_s (held_s (held_s (held_s (held_s (held_s (held_s (held_s held_z)))))))))))) (by kernel_rfl) (by kernel_rfl) (by kernel_rfl) (fun _ _ _ h => h) (Or.inl ⟨by rfl, ?hyq11⟩) (by assumption) ?restq11
        case hyq11 => intro w9 hSw; (try dsimp only at hSw); go_simp; all_goals with_reducible rfl
        try simp only [Act.put, List.setIfInBounds_toArray, List.set_cons_zero, List.set_cons_succ]
        refine wpAnyH_take (i := 12) (v := ?vq12) (held_at (held_s (held_s (held_s (held_s (held_s (held_s (held_s (held_s (held_s (held_s (held_s (held_s held_z))))))))))))) (by kernel_rfl) (by kernel_rfl) (by kernel_rfl) (fun _ _ _ h => h) (Or.inl ⟨by rfl, ?hyq12⟩) (by assumption) ?restq12
        case hyq12 => intro w9 hSw; (try dsimp only at hSw); go_simp; all_goals with_reducible rfl
        try simp only [Act.put, List.setIfInBounds_toArray, List.set_cons_zero, List.set_cons_succ]
        refine wpAnyH_take (i := 13) (v := ?vq13) (held_at (held_s (held_s (held_s (held_s (held_s (held_s (held_s (held_s (held_s (held_s (held_s (held_s (held_s held_z)))))))))))))) (by kernel_rfl) (by kernel_rfl) (by kernel_rfl) (fun _ _ _ h => h) (Or.inl ⟨by rfl, ?hyq13⟩) (by assumption) ?restq13
        case hyq13 => intro w9 hSw; (try dsimp only at hSw); go_simp; all_goals with_reducible rfl
        try simp only [Act.put, List.setIfInBounds_toArray, List.set_cons_zero, List.set_cons_succ]
        refine wpAnyH_take (i := 14) (v := ?vq14) (held_at (held_s (held_s (held_s (held_s (held_s (held_s (held_s (held_s (held_s (held_s (held_s (held_s (held_s (held_s held_z))))))))))))))) (by kernel_rfl) (by kernel_rfl) (by kernel_rfl) (fun _ _ _ h => h) (Or.inl ⟨by rfl, ?hyq14⟩) (by assumption) ?restq14
        case hyq14 => intro w9 hSw; (try dsimp only at hSw); go_simp; all_goals with_reducible rfl
        try simp only [Act.put, List.setIfInBounds_toArray, List.set_cons_zero, List.set_cons_succ]
        refine wpAnyH_take (i := 15) (v := ?vq15) (held_at (held_s (held_s (held_s (held_s (held_s (held_s (held_s (held_s (held_s (held_s (held_s (held_s (held_s (held_s (held_s held_z)))))))))))))))) (by kernel_rfl) (by kernel_rfl) (by kernel_rfl) (fun _ _ _ h => h) (Or.inl ⟨by rfl, ?hyq15⟩) (by assumption) ?restq15
        case hyq15 => intro w9 hSw; (try dsimp only at hSw); go_simp; all_goals with_reducible rfl
        try simp only [Act.put, List.setIfInBounds_toArray, List.set_cons_zero, List.set_cons_succ]
        refine wpAnyH_take (i := 16) (v := ?vq16) (held_at (held_s (held_s (held_s (held_s (held_s (held_s (held_s (held_s (held_s (held_s (held_s (held_s (held_s (held_s (held_s (held_s held_z))))))))))))))))) (by kernel_rfl) (by kernel_rfl) (by kernel_rfl) (fun _ _ _ h => h) (Or.inl ⟨by rfl, ?hyq16⟩) (by assumption) ?restq16
        case hyq16 => intro w9 hSw; (try dsimp only at hSw); go_simp; all_goals with_reducible rfl
        try simp only [Act.put, List.setIfInBounds_toArray, List.set_cons_zero, List.set_cons_succ]
        refine wpAnyH_take (i := 17) (v := ?vq17) (held_at (held_s (held_s (held_s (held_s (held_s (held_s (held_s (held_s (held_s (held_s (held_s (held_s (held_s (held_s (held_s (held_s (held_s held_z)))))))))))))))))) (by kernel_rfl) (by kernel_rfl) (by kernel_rfl) (fun _ _ _ h => h) (Or.inl ⟨by rfl, ?hyq17⟩) (by assumption) ?restq17
        case hyq17 => intro w9 hSw; (try dsimp only at hSw); go_simp; all_goals with_reducible rfl
        try simp only [Act.put, List.setIfInBounds_toArray, List.set_cons_zero, List.set_cons_succ]
        refine wpAnyH_take (i := 18) (v := ?vq18) (held_at (held_s (held_s (held_s (held_s (held_s (held_s (held_s (held_s (held_s (held_s (held_s (held_s (held_s (held_s (held_s (held_s (held_s (held_s held_z))))))))))))))))))) (by kernel_rfl) (by kernel_rfl) (by kernel_rfl) (fun _ _ _ h => h) (Or.inl ⟨by rfl, ?hyq18⟩) (by assumption) ?restq18
        case hyq18 => intro w9 hSw; (try dsimp only at hSw); go_simp; all_goals with_reducible rfl
        try simp only [Act.put, List.setIfInBounds_toArray, List.set_cons_zero, List.set_cons_succ]
        refine wpAnyH_take (i := 19) (v := ?vq19) (held_at (held_s (held_s (held_s (held_s (held_s (held_s (held_s (held_s (held_s (held_s (held_s (held_s (held_s (held_s (held_s (held_s (held_s (held_s (held_s held_z)))))))))))))))))))) (by kernel_rfl) (by kernel_rfl) (by kernel_rfl) (fun _ _ _ h => h) (Or.inl ⟨by rfl, ?hyq19⟩) (by assumption) ?restq19
        case hyq19 => intro w9 hSw; (try dsimp only at hSw); go_simp; all_goals with_reducible rfl
        try simp only [Act.put, List.setIfInBounds_toArray, List.set_cons_zero, List.set_cons_succ]
        refine wpAnyH_take (i := 20) (v := ?vq20) (held_at (held_s (held_s (held_s (held_s (held_s (held_s (held_s (held_s (held_s (held_s (held_s (held_s (held_s (held_s (held_s (held_s (held_s (held_s (held_s (held_s held_z))))))))))))))))))))) (by kernel_rfl) (by kernel_rfl) (by kernel_rfl) (fun _ _ _ h => h) (Or.inl ⟨by rfl, ?hyq20⟩) (by assumption) ?restq20
        case hyq20 => intro w9 hSw; (try dsimp only at hSw); go_simp; all_goals with_reducible rfl
        try simp only [Act.put, List.setIfInBounds_toArray, List.set_cons_zero, List.set_cons_succ]
        refine wpAnyH_take (i := 21) (v := ?vq21) (held_at (held_s (held_s (held_s (held_s (held_s (held_s (held_s (held_s (held_s (held_s (held_s (held_s (held_s (held_s (held_s (held_s (held_s (held_s (held_s (held_s (held_s held_z)))))))))))))))))))))) (by kernel_rfl) (by kernel_rfl) (by kernel_rfl) (fun _ _ _ h => h) (Or.inl ⟨by rfl, ?hyq21⟩) (by assumption) ?restq21
        case hyq21 => intro w9 hSw; (try dsimp only at hSw); go_simp; all_goals with_reducible rfl
        try simp only [Act.put, List.setIfInBounds_toArray, List.set_cons_zero, List.set_cons_succ]
        refine wpAnyH_ready (rs := [22]) (by kernel_rfl) (by simp) ?_
        refine AllReadyH.cons (held_at (held_s (held_s (held_s (held_s (held_s (held_s (held_s (held_s (held_s (held_s (held_s (held_s (held_s (held_s (held_s (held_s (held_s (held_s (held_s (held_s (held_s (held_s held_z))))))))))))))))))))))) (fun K hK => ?_) AllReadyH.nil
        go_simp
        go_at_call 15; (with_reducible refine (HS2.out _ G).mono ?_); rintro e w' ⟨rfl, F⟩; replace G := G.trans F
        try go_wp2_with fail
        refine hK.out _ _ ?_ (fun hHeld => ?_)
        · exact HCL.out _ G
        clear hK K
        try simp only [Act.put, List.setIfInBounds_toArray, List.set_cons_zero, List.set_cons_succ]
        refine wpAnyH_take (i := 23) (v := ?vq23) (held_at (held_s (held_s (held_s (held_s (held_s (held_s (held_s (held_s (held_s (held_s (held_s (held_s (held_s (held_s (held_s (held_s (held_s (held_s (held_s (held_s (held_s (held_s (held_s held_z)))))))))))))))))))))))) (by kernel_rfl) (by kernel_rfl) (by kernel_rfl) (fun _ _ _ h => h) (Or.inl ⟨by rfl, ?hyq23⟩) (by assumption) ?restq23
        case hyq23 => intro w9 hSw; (try dsimp only at hSw); go_simp; all_goals with_reducible rfl
        try simp only [Act.put, List.setIfInBounds_toArray, List.set_cons_zero, List.set_cons_succ]
        refine wpAnyH_take (i := 24) (v := ?vq24) (held_at (held_s (held_s (held_s (held_s (held_s (held_s (held_s (held_s (held_s (held_s (held_s (held_s (held_s (held_s (held_s (held_s (held_s (held_s (held_s (held_s (held_s (held_s (held_s (held_s held_z))))))))))))))))))))))))) (by kernel_rfl) (by kernel_rfl) (by kernel_rfl) (fun _ _ _ h => h) (Or.inl ⟨by rfl, ?hyq24⟩) (by assumption) ?restq24
        case hyq24 => intro w9 hSw; (try dsimp only at hSw); go_simp; all_goals with_reducible rfl
        try simp only [Act.put, List.setIfInBounds_toArray, List.set_cons_zero, List.set_cons_succ]
        refine wpAnyH_take (i := 25) (v := ?vq25) (held_at (held_s (held_s (held_s (held_s (held_s (held_s (held_s (held_s (held_s (held_s (held_s (held_s (held_s (held_s (held_s (held_s (held_s (held_s (held_s (held_s (held_s (held_s (held_s (held_s (held_s held_z)))))))))))))))))))))))))) (by kernel_rfl) (by kernel_rfl) (by kernel_rfl) (fun _ _ _ h => h) (Or.inl ⟨by rfl, ?hyq25⟩) (by assumption) ?restq25
        case hyq25 => intro w9 hSw; (try dsimp only at hSw); go_simp; all_goals with_reducible rfl
        try simp only [Act.put, List.setIfInBounds_toArray, List.set_cons_zero, List.set_cons_succ]
        refine wpAnyH_take (i := 26) (v := undef) (held_at (held_s (held_s (held_s (held_s (held_s (held_s (held_s (held_s (held_s (held_s (held_s (held_s (held_s (held_s (held_s (held_s (held_s (held_s (held_s (held_s (held_s (held_s (held_s (held_s (held_s (held_s held_z))))))))))))))))))))))))))) (by kernel_rfl) (by kernel_rfl) (by kernel_rfl) (fun _ _ _ h => h) (Or.inr ⟨by rfl, rfl⟩) (by assumption) ?_
        try simp only [Act.put, List.setIfInBounds_toArray, List.set_cons_zero, List.set_cons_succ]
        refine wpAnyH_take (i := 27) (v := undef) (held_at (held_s (held_s (held_s (held_s (held_s (held_s (held_s (held_s (held_s (held_s (held_s (held_s (held_s (held_s (held_s (held_s (held_s (held_s (held_s (held_s (held_s (held_s (held_s (held_s (held_s (held_s (held_s held_z)))))))))))))))))))))))))))) (by kernel_rfl) (by kernel_rfl) (by kernel_rfl) (fun _ _ _ h => h) (Or.inr ⟨by rfl, rfl⟩) (by assumption) ?_
        try simp only [Act.put, List.setIfInBounds_toArray, List.set_cons_zero, List.set_cons_succ]
        refine wpAnyH_take (i := 28) (v := undef) (held_at (held_s (held_s (held_s (held_s (held_s (held_s (held_s (held_s (held_s (held_s (held_s (held_s (held_s (held_s (held_s (held_s (held_s (held_s (held_s (held_s (held_s (held_s (held_s (held_s (held_s (held_s (held_s (held_s held_z))))))))))))))))))))))))))))) (by kernel_rfl) (by kernel_rfl) (by kernel_rfl) (fun _ _ _ h => h) (Or.inr ⟨by rfl, rfl⟩) (by assumption) ?_
        try simp only [Act.put, List.setIfInBounds_toArray, List.set_cons_zero, List.set_cons_succ]
        refine wpAnyH_take (i := 29) (v := undef) (held_at (held_s (held_s (held_s (held_s (held_s (held_s (held_s (held_s (held_s (held_s (held_s (held_s (held_s (held_s (held_s (held_s (held_s (held_s (held_s (held_s (held_s (held_s (held_s (held_s (held_s (held_s (held_s (held_s (held_s held_z)))))))))))))))))))))))))))))) (by kernel_rfl) (by kernel_rfl) (by kernel_rfl) (fun _ _ _ h => h) (Or.inr ⟨by rfl, rfl⟩) (by assumption) ?_
        try simp only [Act.put, List.setIfInBounds_toArray, List.set_cons_zero, List.set_cons_succ]
        refine wpAnyH_take (i := 30) (v := undef) (held_at (held_s (held_s (held_s (held_s (held_s (held_s (held_s (held_s (held_s (held_s (held_s (held_s (held_s (held_s (held_s (held_s (held_s (held_s (held_s (held_s (held_s (held_s (held_s (held_s (held_s (held_s (held_s (held_s (held_s (held_s held_z))))))))))))))))))))))))))))))) (by kernel_rfl) (by kernel_rfl) (by kernel_rfl) (fun _ _ _ h => h) (Or.inr ⟨by rfl, rfl⟩) (by assumption) ?_
        try simp only [Act.put, List.setIfInBounds_toArray, List.set_cons_zero, List.set_cons_succ]
        refine wpAnyH_take (i := 31) (v := undef) (held_at (held_s (held_s (held_s (held_s (held_s (held_s (held_s (held_s (held_s (held_s (held_s (held_s (held_s (held_s (held_s (held_s (held_s (held_s (held_s (held_s (held_s (held_s (held_s (held_s (held_s (held_s (held_s (held_s (held_s (held_s (held_s held_z)))))))))))))))))))))))))))))))) (by kernel_rfl) (by kernel_rfl) (by kernel_rfl) (fun _ _ _ h => h) (Or.inr ⟨by rfl, rfl⟩) (by assumption) ?_
        try simp only [Act.put, List.setIfInBounds_toArray, List.set_cons_zero, List.set_cons_succ]
        refine wpAnyH_take (i := 32) (v := undef) (held_at (held_s (held_s (held_s (held_s (held_s (held_s (held_s (held_s (held_s (held_s (held_s (held_s (held_s (held_s (held_s (held_s (held_s (held_s (held_s (held_s (held_s (held_s (held_s (held_s (held_s (held_s (held_s (held_s (held_s (held_s (held_s (held_s held_z))))))))))))))))))))))))))))))))) (by kernel_rfl) (by kernel_rfl) (by kernel_rfl) (fun _ _ _ h => h) (Or.inr ⟨by rfl, rfl⟩) (by assumption) ?_
        try simp only [Act.put, List.setIfInBounds_toArray, List.set_cons_zero, List.set_cons_succ]
        refine wpAnyH_take (i := 33) (v := undef) (held_at (held_s (held_s (held_s (held_s (held_s (held_s (held_s (held_s (held_s (held_s (held_s (held_s (held_s (held_s (held_s (held_s (held_s (held_s (held_s (held_s (held_s (held_s (held_s (held_s (held_s (held_s (held_s (held_s (held_s (held_s (held_s (held_s (held_s held_z)))))))))))))))))))))))))))))))))) (by kernel_rfl) (by kernel_rfl) (by kernel_rfl) (fun _ _ _ h => h) (Or.inr ⟨by rfl, rfl⟩) (by assumption) ?_
        try simp only [Act.put, List.setIfInBounds_toArray, List.set_cons_zero, List.set_cons_succ]
        refine wpAnyH_take (i := 34) (v := undef) (held_at (held_s (held_s (held_s (held_s (held_s (held_s (held_s (held_s (held_s (held_s (held_s (held_s (held_s (held_s (held_s (held_s (held_s (held_s (held_s (held_s (held_s (held_s (held_s (held_s (held_s (held_s (held_s (held_s (held_s (held_s (held_s (held_s (held_s (held_s held_z))))))))))))))))))))))))))))))))))) (by kernel_rfl) (by kernel_rfl) (by kernel_rfl) (fun _ _ _ h => h) (Or.inr ⟨by rfl, rfl⟩) (by assumption) ?_
        try simp only [Act.put, List.setIfInBounds_toArray, List.set_cons_zero, List.set_cons_succ]
        refine wpAnyH_take (i := 35) (v := undef) (held_at (held_s (held_s (held_s (held_s (held_s (held_s (held_s (held_s (held_s (held_s (held_s (held_s (held_s (held_s (held_s (held_s (held_s (held_s (held_s (held_s (held_s (held_s (held_s (held_s (held_s (held_s (held_s (held_s (held_s (held_s (held_s (held_s (held_s (held_s (held_s held_z)))))))))))))))))))))))))))))))))))) (by kernel_rfl) (by kernel_rfl) (by kernel_rfl) (fun _ _ _ h => h) (Or.inr ⟨by rfl, rfl⟩) (by assumption) ?_
        try simp only [Act.put, List.setIfInBounds_toArray, List.set_cons_zero, List.set_cons_succ]
        refine wpAnyH_take (i := 36) (v := undef) (held_at (held_s (held_s (held_s (held_s (held_s (held_s (held_s (held_s (held_s (held_s (held_s (held_s (held_s (held_s (held_s (held_s (held_s (held_s (held_s (held_s (held_s (held_s (held_s (held_s (held_s (held_s (held_s (held_s (held_s (held_s (held_s (held_s (held_s (held_s (held_s (held_s held_z))))))))))))))))))))))))))))))))))))) (by kernel_rfl) (by kernel_rfl) (by kernel_rfl) (fun _ _ _ h => h) (Or.inr ⟨by rfl, rfl⟩) (by assumption) ?_
        try simp only [Act.put, List.setIfInBounds_toArray, List.set_cons_zero, List.set_cons_succ]
        refine wpAnyH_take (i := 37) (v := undef) (held_at (held_s (held_s (held_s (held_s (held_s (held_s (held_s (held_s (held_s (held_s (held_s (held_s (held_s (held_s (held_s (held_s (held_s (held_s (held_s (held_s (held_s (held_s (held_s (held_s (held_s (held_s (held_s (held_s (held_s (held_s (held_s (held_s (held_s (held_s (held_s (held_s (held_s held_z)))))))))))))))))))))))))))))))))))))) (by kernel_rfl) (by kernel_rfl) (by kernel_rfl) (fun _ _ _ h => h) (Or.inr ⟨by rfl, rfl⟩) (by assumption) ?_
        try simp only [Act.put, List.setIfInBounds_toArray, List.set_cons_zero, List.set_cons_succ]
        refine wpAnyH_take (i := 38) (v := ?vq38) (held_at (held_s (held_s (held_s (held_s (held_s (held_s (held_s (held_s (held_s (held_s (held_s (held_s (held_s (held_s (held_s (held_s (held_s (held_s (held_s (held_s (held_s (held_s (held_s (held_s (held_s (held_s (held_s (held_s (held_s (held_s (held_s (held_s (held_s (held_s (held_s (held_s (held_s (held_s held_z))))))))))))))))))))))))))))))))))))))) (by kernel_rfl) (by kernel_rfl) (by kernel_rfl) (fun _ _ _ h => h) (Or.inl ⟨by rfl, ?hyq38⟩) (by assumption) ?restq38
        case hyq38 => intro w9 hSw; (try dsimp only at hSw); go_simp; all_goals with_reducible rfl
        try simp only [Act.put, List.setIfInBounds_toArray, List.set_cons_zero, List.set_cons_succ]
        refine wpAnyH_done (by kernel_rfl) ?_ _
        all_goals
          have HG2 := Lib.hid (HF.out.trans G)
          go_wp2_with fail
          go_ret
          exact ⟨by rw [HD.out]; rfl, HG2.out⟩
      · have s1 : (x.k == y.k) = true := by rw [hk]; simp
        have s2 : (x.k != y.k) = false := by rw [hk]; simp
        have hs2 := HS.out
        simp only [decide_eq_true hb] at hs2
        have HS2 := Lib.hid hs2
        clear hs2
        have hnc : x.n = y.n ∨ x.n ≠ y.n := Classical.em _
        rcases hnc with hn | hn
        case' inl =>
          have hs2 := HN.out
          simp only [decide_eq_true hn] at hs2
          have HN2 := Lib.hid hs2
          clear hs2
          have HNX := Lib.hid (show ∀ k : Nat, k < j + 1 → a[k]? = b[k]? from fun k hk2 => by
            rcases Nat.lt_or_ge k j with h | h
            · exact HAL.out k h
            · obtain rfl : k = j := by omega
              rw [HXY.out.1, HXY.out.2, gen_eq.2 ⟨hk, hb, hn⟩])
        case' inr =>
          have hs2 := HN.out
          simp only [decide_eq_false hn] at hs2
          have HN2 := Lib.hid hs2
          clear hs2
          have HD := Lib.hid (BAD.out (fun e => hn (by rw [e])))
        all_goals
          clear hk hb hn HS HN F
        case inl =>
          go_upto_region 6 with fail
          have G : Fr (fun _ => False) wr wr.drew := (Fr.refl wr).drew
          replace e0 := G.cell e0 (fun h => h)
          replace e1 := G.cell e1 (fun h => h)
          replace e2 := G.cell e2 (fun h => h)
          replace g0 := G.cell g0 (fun h => h)
          replace g1 := G.cell g1 (fun h => h)
          replace g2 := G.cell g2 (fun h => h)
          go_region_held3 (fun w' => w'.cell? ⟨ba, oa + j * 3, none⟩ = some (.int .i64 x.k) ∧ w'.cell? ⟨ba, oa + j * 3 + 1, none⟩ = some (.slice ab x.b.length cab) ∧ w'.cell? ⟨ba, oa + j * 3 + 2, none⟩ = some (.slice an x.n.length can) ∧ w'.cell? ⟨bb, ob + j * 3, none⟩ = some (.int .i64 y.k) ∧ w'.cell? ⟨bb, ob + j * 3 + 1, none⟩ = some (.slice bb2 y.b.length cbb) ∧ w'.cell? ⟨bb, ob + j * 3 + 2, none⟩ = some (.slice bn y.n.length cbn)) (exact ⟨e0, e1, e2, g0, g1, g2⟩) (first
            | (go_at_call 15; refine (HS2.out _ G).mono ?_; rintro e w' ⟨rfl, F⟩; replace e0 := F.cell e0 (fun h => h); replace e1 := F.cell e1 (fun h => h); replace e2 := F.cell e2 (fun h => h); replace g0 := F.cell g0 (fun h => h); replace g1 := F.cell g1 (fun h => h); replace g2 := F.cell g2 (fun h => h); replace G := G.trans F; clear F)
            | (go_at_call 13; refine (HN2.out _ G).mono ?_; rintro e w' ⟨rfl, F⟩; replace e0 := F.cell e0 (fun h => h); replace e1 := F.cell e1 (fun h => h); replace e2 := F.cell e2 (fun h => h); replace g0 := F.cell g0 (fun h => h); replace g1 := F.cell g1 (fun h => h); replace g2 := F.cell g2 (fun h => h); replace G := G.trans F; clear F))
          all_goals
            have HG2 := Lib.hid (HF.out.trans G)
            go_wp2_with fail
            go_roundg (a.length - (j + 1))
            case measure => rw [HG.out]; omega
            case rel => exact ⟨j + 1, rfl, by omega, by go_num, HNX.out, HG2.out⟩
        case inr =>
          go_upto_region 6 with fail
          have G : Fr (fun _ => False) wr wr.drew := (Fr.refl wr).drew
          replace e0 := G.cell e0 (fun h => h)
          replace e1 := G.cell e1 (fun h => h)
          replace e2 := G.cell e2 (fun h => h)
          replace g0 := G.cell g0 (fun h => h)
          replace g1 := G.cell g1 (fun h => h)
          replace g2 := G.cell g2 (fun h => h)
          go_region_held3 (fun w' => w'.cell? ⟨ba, oa + j * 3, none⟩ = some (.int .i64 x.k) ∧ w'.cell? ⟨ba, oa + j * 3 + 1, none⟩ = some (.slice ab x.b.length cab) ∧ w'.cell? ⟨ba, oa + j * 3 + 2, none⟩ = some (.slice an x.n.length can) ∧ w'.cell? ⟨bb, ob + j * 3, none⟩ = some (.int .i64 y.k) ∧ w'.cell? ⟨bb, ob + j * 3 + 1, none⟩ = some (.slice bb2 y.b.length cbb) ∧ w'.cell? ⟨bb, ob + j * 3 + 2, none⟩ = some (.slice bn y.n.length cbn)) (exact ⟨e0, e1, e2, g0, g1, g2⟩) (first
            | (go_at_call 15; refine (HS2.out _ G).mono ?_; rintro e w' ⟨rfl, F⟩; replace e0 := F.cell e0 (fun h => h); replace e1 := F.cell e1 (fun h => h); replace e2 := F.cell e2 (fun h => h); replace g0 := F.cell g0 (fun h => h); replace g1 := F.cell g1 (fun h => h); replace g2 := F.cell g2 (fun h => h); replace G := G.trans F; clear F)
            | (go_at_call 13; refine (HN2.out _ G).mono ?_; rintro e w' ⟨rfl, F⟩; replace e0 := F.cell e0 (fun h => h); replace e1 := F.cell e1 (fun h => h); replace e2 := F.cell e2 (fun h => h); replace g0 := F.cell g0 (fun h => h); replace g1 := F.cell g1 (fun h => h); replace g2 := F.cell g2 (fun h => h); replace G := G.trans F; clear F))
          all_goals
            have HG2 := Lib.hid (HF.out.trans G)
            go_wp2_with fail
            go_ret
            exact ⟨by rw [HD.out]; rfl, HG2.out⟩
    · have hall := HAL.out
      have HD := Lib.hid (decide_eq_true (list_like HLEN.out (fun i hi => hall i (by omega))))
      clear hall
      go_wp2_with fail
      go_ret
      exact ⟨by rw [HD.out]; rfl, F⟩
end Go.Proofs.YtacekpdjapgfcaaGreatDoor

namespace Go.Q
open Go Go.RowKit
def nmVal : Except Int (List (List Part) × Nat) → List (List Part) | .ok (n, _) => n | .error _ => []
def stVal : Except Int (List Part × Nat) → List Part | .ok (n, _) => n | .error _ => []
def psVal : Except Int (List (List Part)) → List (List Part) | .ok n => n | .error _ => []
def atOf {α : Type} : Except Int (α × Nat) → Nat | .ok (_, k) => k | .error _ => 0
def errOf {α : Type} : Except Int α → Int | .ok _ => 0 | .error x => x
theorem NameAt.nil0 (w : World) : NameAt w (.slice none 0 0) [] := ⟨none, 0, rfl, Nat.le_refl _, Nat.zero_le _, fun h => absurd h (Nat.lt_irrefl _)⟩
theorem Attrs.nil0 (w : World) : Attrs w (.slice none 0 0) [] := ⟨none, 0, rfl, Nat.le_refl _, Nat.zero_le _, fun h => absurd h (Nat.lt_irrefl _)⟩
theorem NameAt.one {w : World} {g : Nat} {t : TypeId} {u : Value} {r : List Part} (B : Blk w g t #[u]) (h : Attrs w u r) : NameAt w (.slice (some ⟨g, 0, none⟩) 1 1) [r] :=
  ⟨_, 1, rfl, Nat.le_refl _, by unfold maxLen; omega, fun _ => ⟨g, 0, rfl, fun i q hq => by
    match i, hq with
    | 0, hq =>
      simp only [List.getElem?_cons_zero, Option.some.injEq] at hq
      subst hq
      exact ⟨u, B.cell 0, h⟩
    | i + 1, hq => simp at hq⟩⟩
end Go.Q
namespace Go.Proofs.YtacekpdjapgfcaaGreatDoor
open Go Go.RowKit Go.Q
end Go.Proofs.YtacekpdjapgfcaaGreatDoor

namespace Go.Q
open Go Go.RowKit
theorem rdnGo_small : ∀ (f : Nat) (out : List Part) (last l : List UInt8) (r : List Part), out.length ≤ 16 → l.length ≤ f → rdnGoS f out last l = .ok r → r.length ≤ 16
  | 0, out, last, l, r, ho, hl, h => by
    obtain rfl : l = [] := List.length_eq_zero_iff.1 (by omega)
    simp only [rdnGoS] at h
    split at h
    · cases h
    · cases h; exact ho
  | f + 1, out, last, [], r, ho, hl, h => by
    simp only [rdnGoS] at h
    split at h
    · cases h
    · cases h; exact ho
  | f + 1, out, last, x :: t, r, ho, hl, h => by
    simp only [rdnGoS] at h
    split at h
    · cases h
    rename_i h16
    split at h
    · cases h
    rename_i q m hx
    have hb := partRead_back hx
    split at h
    · cases h
    split at h
    · cases h
    exact rdnGo_small f _ _ _ r (by rw [List.length_append, List.length_singleton]; omega) (by simp only [List.length_drop, List.length_cons] at hl ⊢; omega) h
theorem rdnRead_small {l : List UInt8} {r : List Part} {k : Nat} (h : rdnReadS l = .ok (r, k)) : r.length ≤ 16 := by
  unfold rdnReadS at h
  split at h
  · cases h
  split at h
  · cases h
  rename_i hx
  simp only [Except.ok.injEq, Prod.mk.injEq] at h
  obtain ⟨rfl, -⟩ := h
  exact rdnGo_small _ [] [] _ _ (by simp) (Nat.le_refl _) hx
theorem nameGo_small : ∀ (f : Nat) (out : List (List Part)) (l : List UInt8) (n : List (List Part)), out.length ≤ 64 → (∀ r ∈ out, r.length ≤ 16) → l.length ≤ f → nameGoS f out l = .ok n → n.length ≤ 64 ∧ ∀ r ∈ n, r.length ≤ 16
  | 0, out, l, n, ho, hr, hl, h => by
    obtain rfl : l = [] := List.length_eq_zero_iff.1 (by omega)
    cases h
    exact ⟨ho, hr⟩
  | f + 1, out, [], n, ho, hr, hl, h => by
    cases h
    exact ⟨ho, hr⟩
  | f + 1, out, x :: t, n, ho, hr, hl, h => by
    simp only [nameGoS] at h
    split at h
    · cases h
    rename_i h64
    split at h
    · cases h
    rename_i q m hx
    have hb := rdnRead_len hx
    have hs := rdnRead_small hx
    exact nameGo_small f _ _ n (by rw [List.length_append, List.length_singleton]; omega) (fun r hm => by
      rcases List.mem_append.1 hm with hm | hm
      · exact hr r hm
      · rw [List.mem_singleton.1 hm]; exact hs) (by simp only [List.length_drop, List.length_cons] at hl ⊢; omega) h
theorem nmVal_small (l : List UInt8) : (nmVal (nameReadS l)).length ≤ 64 ∧ ∀ r ∈ nmVal (nameReadS l), r.length ≤ 16 := by
  cases h : nameReadS l with
  | error x => exact ⟨by simp [nmVal], by simp [nmVal]⟩
  | ok nk =>
    obtain ⟨n, k⟩ := nk
    unfold nameReadS at h
    split at h
    · cases h
    split at h
    · cases h
    rename_i hx
    simp only [Except.ok.injEq, Prod.mk.injEq] at h
    obtain ⟨rfl, -⟩ := h
    exact nameGo_small _ [] _ _ (by simp) (by simp) (Nat.le_refl _) hx
theorem psVal_eq (l : List UInt8) : psVal (nameParseS l) = [] ∨ psVal (nameParseS l) = nmVal (nameReadS l) := by
  unfold nameParseS
  split
  · exact .inl rfl
  · split
    · exact .inl rfl
    · rename_i h _
      rw [h]
      exact .inr rfl
end Go.Q

namespace Go.Q
open Go Go.RowKit
def gVal : Except Int (Gen × Nat) → Gen | .ok (g, _) => g | .error _ => ⟨0, [], []⟩
def gsVal : Except Int (List Gen × Nat) → List Gen | .ok (g, _) => g | .error _ => []
def gaVal : Except Int (List Gen) → List Gen | .ok g => g | .error _ => []
def smallG (g : Gen) : Prop := g.n.length ≤ 64 ∧ ∀ r ∈ g.n, r.length ≤ 16
theorem nameParse_small {l : List UInt8} {n : List (List Part)} (h : nameParseS l = .ok n) : n.length ≤ 64 ∧ ∀ r ∈ n, r.length ≤ 16 := by
  have h1 := psVal_eq l
  have h2 := nmVal_small l
  rw [h] at h1
  rcases h1 with h1 | h1
  · have h3 : n = [] := h1
    subst h3
    exact ⟨by simp, by simp⟩
  · have h3 : n = nmVal (nameReadS l) := h1
    rw [h3]
    exact h2
theorem genRead_small {l : List UInt8} {g : Gen} {k : Nat} (h : genReadS l = .ok (g, k)) : smallG g := by
  unfold genReadS at h
  split at h
  · cases h
  split at h
  · cases h
  split at h
  · cases h
  split at h
  · split at h
    · cases h
    · rename_i hm
      simp only [Except.ok.injEq, Prod.mk.injEq] at h
      obtain ⟨rfl, -⟩ := h
      exact nameParse_small hm
  · split at h
    · simp only [Except.ok.injEq, Prod.mk.injEq] at h
      obtain ⟨rfl, -⟩ := h
      exact ⟨by simp, by simp⟩
    · cases h
theorem gVal_small (l : List UInt8) : smallG (gVal (genReadS l)) := by
  cases h : genReadS l with
  | error x => exact ⟨by simp [gVal], by simp [gVal]⟩
  | ok gk =>
    obtain ⟨g, k⟩ := gk
    exact genRead_small h
theorem gaVal_small (l : List UInt8) : (gaVal (genAllS l)).length ≤ 10000 ∧ ∀ g ∈ gaVal (genAllS l), smallG g := by
  cases h : genAllS l with
  | error x => exact ⟨by simp [gaVal], by simp [gaVal]⟩
  | ok gs =>
    have h0 := (genAll_back h).2.2.2
    unfold genAllS at h
    split at h
    · cases h
    obtain ⟨t, h1, h2, -⟩ := many_back (P := smallG) (wr := genWhole) (fun l g k h => by
      obtain ⟨-, c, d, -⟩ := genRead_back l g k h
      exact ⟨genRead_small h, c, d⟩) l.length [] l gs (by simp) (Nat.le_refl _) h
    rw [List.nil_append] at h1
    subst h1
    exact ⟨h0, h2⟩
theorem gsVal_small (l : List UInt8) : (gsVal (genListS l)).length ≤ 10000 ∧ ∀ g ∈ gsVal (genListS l), smallG g := by
  unfold genListS
  split
  · exact ⟨by simp [gsVal], by simp [gsVal]⟩
  · rename_i y k _
    have h := gaVal_small y
    split
    · exact ⟨by simp [gsVal], by simp [gsVal]⟩
    · rename_i gs hg
      rw [hg] at h
      exact h
def allAt (l : List UInt8) : Nat := match genAllS l with | .ok _ => l.length | .error _ => 0
theorem allAt_err {l : List UInt8} (h : errOf (genAllS l) ≠ 0) : allAt l = 0 := by
  unfold allAt
  cases hg : genAllS l with
  | ok gs =>
    rw [hg] at h
    exact absurd rfl h
  | error x => rfl
theorem Gens.nil0 (w : World) : Gens w (.slice none 0 0) [] := ⟨none, 0, rfl, Nat.le_refl _, Nat.zero_le _, fun h => absurd h (Nat.lt_irrefl _)⟩
end Go.Q
namespace Go.Proofs.YtacekpdjapgfcaaGreatDoor
open Go Go.RowKit Go.Q
theorem allAt_ok {l : List UInt8} (h : errOf (genAllS l) = 0) : allAt l = l.length := by
  unfold allAt
  cases hg : genAllS l with
  | ok gs => rfl
  | error x =>
    rw [hg] at h
    exact absurd h (genAll_nz hg)
theorem genRead_one {w : World} {c : Nat} {K : Nat → Prop} {bs : List UInt8} {p : Nat} (h : CurAt w c K bs p) (hbs : bs.length ≤ 10000000) :
    Calls Tryz.prog 19 #[pt c] w fun e w' => (∃ ab cb an cn, e = .returned (.tuple #[.agg #[.int .i64 (gVal (genReadS (bs.drop p))).k, .slice ab (gVal (genReadS (bs.drop p))).b.length cb, .slice an (gVal (genReadS (bs.drop p))).n.length cn], .int .i64 (errOf (genReadS (bs.drop p)))]) ∧ Kept (fun W => Bytes W (.slice ab (gVal (genReadS (bs.drop p))).b.length cb) (gVal (genReadS (bs.drop p))).b ∧ NameAt W (.slice an (gVal (genReadS (bs.drop p))).n.length cn) (gVal (genReadS (bs.drop p))).n) (fun k => k < w.heap.size) w' ∧ CurAt w' c K bs (p + atOf (genReadS (bs.drop p)))) ∧ Fr (fun k => k = c) w w' :=
  (genRead_any h hbs).mono fun e w' ⟨h1, F⟩ => by
    refine ⟨?_, F⟩
    unfold genReadOut at h1
    cases hr : genReadS (bs.drop p) with
    | error x =>
      rw [hr] at h1
      exact ⟨none, 0, none, 0, h1.1, (bytes_nil _ _).both (name_nil _ _), h1.2.2⟩
    | ok lm =>
      rw [hr] at h1
      exact h1
theorem readAll_one {w : World} {c : Nat} {K : Nat → Prop} {bs : List UInt8} {p : Nat} (h : CurAt w c K bs p) (hbs : bs.length ≤ 10000000) :
    Calls Tryz.prog 21 #[pt c] w fun e w' => (∃ a cc, e = .returned (.tuple #[.slice a (gaVal (genAllS (bs.drop p))).length cc, .int .i64 (errOf (genAllS (bs.drop p)))]) ∧ Kept (fun W => Gens W (.slice a (gaVal (genAllS (bs.drop p))).length cc) (gaVal (genAllS (bs.drop p)))) (fun k => k < w.heap.size) w' ∧ CurAt w' c K bs (p + allAt (bs.drop p))) ∧ Fr (fun k => k = c) w w' :=
  (readAll_any h hbs).mono fun e w' ⟨h1, F⟩ => by
    refine ⟨?_, F⟩
    unfold gensReadOut genAllR at h1
    unfold allAt
    cases hr : genAllS (bs.drop p) with
    | error x =>
      rw [hr] at h1
      exact ⟨none, 0, h1.1, fun W _ => Gens.nil0 W, h1.2.2⟩
    | ok lm =>
      rw [hr] at h1
      exact h1
theorem readList_one {w : World} {c : Nat} {K : Nat → Prop} {bs : List UInt8} {p : Nat} (h : CurAt w c K bs p) (hbs : bs.length ≤ 10000000) :
    Calls Tryz.prog 23 #[pt c] w fun e w' => (∃ a cc, e = .returned (.tuple #[.slice a (gsVal (genListS (bs.drop p))).length cc, .int .i64 (errOf (genListS (bs.drop p)))]) ∧ Kept (fun W => Gens W (.slice a (gsVal (genListS (bs.drop p))).length cc) (gsVal (genListS (bs.drop p)))) (fun k => k < w.heap.size) w' ∧ CurAt w' c K bs (p + atOf (genListS (bs.drop p)))) ∧ Fr (fun k => k = c) w w' :=
  (readList_any h hbs).mono fun e w' ⟨h1, F⟩ => by
    refine ⟨?_, F⟩
    unfold gensReadOut at h1
    cases hr : genListS (bs.drop p) with
    | error x =>
      rw [hr] at h1
      exact ⟨none, 0, h1.1, fun W _ => Gens.nil0 W, h1.2.2⟩
    | ok lm =>
      rw [hr] at h1
      exact h1
theorem r15Read_one (v : Value) (l : List UInt8) (p : Nat) (K : Nat → Prop) (w : World) (h : Kept (fun W => Bytes W v l) K w) (hK : ∀ k, K k → k < w.heap.size) (hp : p ≤ l.length) (hlm : l.length ≤ 10000000) :
    Calls Tryz.prog 20 #[v, .int .i64 p] w fun e w' => (∃ ab cb an cn, e = .returned (.tuple #[.agg #[.int .i64 (gVal (genReadS (l.drop p))).k, .slice ab (gVal (genReadS (l.drop p))).b.length cb, .slice an (gVal (genReadS (l.drop p))).n.length cn], .int .i64 ((p + atOf (genReadS (l.drop p)) : Nat) : Int), .int .i64 (errOf (genReadS (l.drop p)))]) ∧ Kept (fun W => Bytes W (.slice ab (gVal (genReadS (l.drop p))).b.length cb) (gVal (genReadS (l.drop p))).b ∧ NameAt W (.slice an (gVal (genReadS (l.drop p))).n.length cn) (gVal (genReadS (l.drop p))).n) K w') ∧ Fr (fun _ => False) w w' :=
  (r15Read_any v l p K w h hK hp hlm).mono fun e w' ⟨h1, F⟩ => by
    refine ⟨?_, F⟩
    unfold rGenOut at h1
    cases hr : genReadS (l.drop p) with
    | error x =>
      rw [hr] at h1
      exact ⟨none, 0, none, 0, h1, (bytes_nil _ _).both (name_nil _ _)⟩
    | ok lm =>
      rw [hr] at h1
      exact h1
theorem r15ReadAll_one (v : Value) (l : List UInt8) (p : Nat) (K : Nat → Prop) (w : World) (h : Kept (fun W => Bytes W v l) K w) (hK : ∀ k, K k → k < w.heap.size) (hp : p ≤ l.length) (hlm : l.length ≤ 10000000) :
    Calls Tryz.prog 22 #[v, .int .i64 p] w fun e w' => (∃ a c, e = .returned (.tuple #[.slice a (gaVal (genAllS (l.drop p))).length c, .int .i64 (errOf (genAllS (l.drop p)))]) ∧ Kept (fun W => Gens W (.slice a (gaVal (genAllS (l.drop p))).length c) (gaVal (genAllS (l.drop p)))) K w') ∧ Fr (fun _ => False) w w' :=
  (r15ReadAll_any v l p K w h hK hp hlm).mono fun e w' ⟨h1, F⟩ => by
    refine ⟨?_, F⟩
    unfold rGensOut at h1
    cases hr : genAllS (l.drop p) with
    | error x =>
      rw [hr] at h1
      exact ⟨none, 0, h1, fun W _ => Gens.nil0 W⟩
    | ok lm =>
      rw [hr] at h1
      exact h1
theorem r15ReadList_one (v : Value) (l : List UInt8) (K : Nat → Prop) (w : World) (h : Kept (fun W => Bytes W v l) K w) (hK : ∀ k, K k → k < w.heap.size) (hlm : l.length ≤ 10000000) :
    Calls Tryz.prog 24 #[v, .int .i64 0] w fun e w' => (∃ a c, e = .returned (.tuple #[.slice a (gsVal (genListS l)).length c, .int .i64 (atOf (genListS l) : Nat), .int .i64 (errOf (genListS l))]) ∧ Kept (fun W => Gens W (.slice a (gsVal (genListS l)).length c) (gsVal (genListS l))) K w') ∧ Fr (fun _ => False) w w' :=
  (r15ReadList_any v l 0 K w h hK (Nat.zero_le _) hlm).mono fun e w' ⟨h1, F⟩ => by
    rw [List.drop_zero] at h1
    refine ⟨?_, F⟩
    unfold rListOut at h1
    cases hr : genListS l with
    | error x =>
      rw [hr] at h1
      exact ⟨none, 0, h1, fun W _ => Gens.nil0 W⟩
    | ok lm =>
      rw [hr] at h1
      obtain ⟨gs, k⟩ := lm
      obtain ⟨a, c, h2, h3⟩ := h1
      rw [Nat.zero_add] at h2
      exact ⟨a, c, h2, h3⟩
end Go.Proofs.YtacekpdjapgfcaaGreatDoor

namespace Go.Proofs.YtacekpdjapgfcaaGreatDoor
open Go Go.RowKit Go.Q
theorem gens_self (v u : Value) (l : List Gen) (w : World) (h : Gens w v l) (hu : Gens w u l) :
    Calls Tryz.prog 26 #[v, u] w fun e w' => e = .returned (.bool true) ∧ Fr (fun _ => False) w w' := by
  have := r15Like_any v u l l w h hu
  rwa [decide_eq_true rfl] at this
theorem like_two (W : World) (g : Gen) (v1 v2 u1 u2 : Value) (h1 : Bytes W v1 g.b) (h2 : NameAt W v2 g.n) (h3 : Bytes W u1 g.b) (h4 : NameAt W u2 g.n) :
    Calls Tryz.prog 26 #[.slice (some ⟨W.heap.size, 0, none⟩) 1 1, .slice (some ⟨W.heap.size + 1, 0, none⟩) 1 1] ((W.alloc (.cells #[.int .i64 g.k, v1, v2] 46)).alloc (.cells #[.int .i64 g.k, u1, u2] 46)) fun e w' => e = .returned (.bool true) ∧ Fr (fun _ => False) W w' := by
  have F1 : Fr (fun _ => False) W (W.alloc (.cells #[.int .i64 g.k, v1, v2] 46)) := (Fr.refl W).alloc _
  have F2 := F1.alloc (.cells #[.int .i64 g.k, u1, u2] 46)
  have B1 := (Blk.new W 46 #[.int .i64 g.k, v1, v2]).alloc (.cells #[.int .i64 g.k, u1, u2] 46)
  have B2 := Blk.new (W.alloc (.cells #[.int .i64 g.k, v1, v2] 46)) 46 #[.int .i64 g.k, u1, u2]
  rw [World.size_alloc] at B2
  exact (gens_self _ _ [g] _ (gens_one B1 (h1.old F2) (h2.old F2)) (gens_one B2 (h3.old F2) (h4.old F2))).mono fun _ _ ⟨h, F⟩ => ⟨h, F2.trans F⟩
theorem like_owt (W : World) (g : Gen) (v1 v2 u1 u2 : Value) (h1 : Bytes W v1 g.b) (h2 : NameAt W v2 g.n) (h3 : Bytes W u1 g.b) (h4 : NameAt W u2 g.n) :
    Calls Tryz.prog 26 #[.slice (some ⟨W.heap.size + 1, 0, none⟩) 1 1, .slice (some ⟨W.heap.size, 0, none⟩) 1 1] ((W.alloc (.cells #[.int .i64 g.k, u1, u2] 46)).alloc (.cells #[.int .i64 g.k, v1, v2] 46)) fun e w' => e = .returned (.bool true) ∧ Fr (fun _ => False) W w' := by
  have F1 : Fr (fun _ => False) W (W.alloc (.cells #[.int .i64 g.k, u1, u2] 46)) := (Fr.refl W).alloc _
  have F2 := F1.alloc (.cells #[.int .i64 g.k, v1, v2] 46)
  have B1 := (Blk.new W 46 #[.int .i64 g.k, u1, u2]).alloc (.cells #[.int .i64 g.k, v1, v2] 46)
  have B2 := Blk.new (W.alloc (.cells #[.int .i64 g.k, u1, u2] 46)) 46 #[.int .i64 g.k, v1, v2]
  rw [World.size_alloc] at B2
  exact (gens_self _ _ [g] _ (gens_one B2 (h1.old F2) (h2.old F2)) (gens_one B1 (h3.old F2) (h4.old F2))).mono fun _ _ ⟨h, F⟩ => ⟨h, F2.trans F⟩
theorem of_late (W : World) (u u1 u2 : Value) (g : Gen) (h : GenAt W u g) (hs : g.n.length ≤ 1000000 ∧ ∀ r ∈ g.n, r.length ≤ 1000000) :
    Calls Tryz.prog 27 #[u] (W.alloc (.cells #[.int .i64 g.k, u1, u2] 46)) fun e w' => (∃ ab cb an cn, e = .returned (.agg #[.int .i64 g.k, .slice ab g.b.length cb, .slice an g.n.length cn]) ∧ Bytes w' (.slice ab g.b.length cb) g.b ∧ NameAt w' (.slice an g.n.length cn) g.n) ∧ Blk w' W.heap.size 46 #[.int .i64 g.k, u1, u2] ∧ Fr (fun _ => False) W w' :=
  (lawGOf_any u g _ _ h ((Fr.refl W).alloc _) hs.1 hs.2).mono fun _ _ ⟨⟨ab, cb, an, cn, h1, h2⟩, F⟩ =>
    ⟨⟨ab, cb, an, cn, h1, h2.now⟩, (Blk.new W 46 #[.int .i64 g.k, u1, u2]).fr F (fun h => h), ((Fr.refl W).alloc _).trans F⟩
theorem like_late (W : World) (s : Nat) (g : Gen) (v1 v2 u1 u2 : Value) (B : Blk W s 46 #[.int .i64 g.k, u1, u2]) (h1 : Bytes W v1 g.b) (h2 : NameAt W v2 g.n) (h3 : Bytes W u1 g.b) (h4 : NameAt W u2 g.n) :
    Calls Tryz.prog 26 #[.slice (some ⟨W.heap.size, 0, none⟩) 1 1, .slice (some ⟨s, 0, none⟩) 1 1] (W.alloc (.cells #[.int .i64 g.k, v1, v2] 46)) fun e w' => e = .returned (.bool true) ∧ Fr (fun _ => False) W w' := by
  have F1 : Fr (fun _ => False) W (W.alloc (.cells #[.int .i64 g.k, v1, v2] 46)) := (Fr.refl W).alloc _
  exact (gens_self _ _ [g] _ (gens_one (Blk.new W 46 #[.int .i64 g.k, v1, v2]) (h1.old F1) (h2.old F1)) (gens_one (B.alloc _) (h3.old F1) (h4.old F1))).mono fun _ _ ⟨h, F⟩ => ⟨h, F1.trans F⟩
end Go.Proofs.YtacekpdjapgfcaaGreatDoor
