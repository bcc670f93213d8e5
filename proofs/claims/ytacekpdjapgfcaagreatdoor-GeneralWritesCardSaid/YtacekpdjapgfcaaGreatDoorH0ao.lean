/-
  Merged by program: XR14L XRSlice XNSub XNOpen XR02O.
-/
import Derived.Test.YtacekpdjapgfcaaGreatDoorH0al
import Derived.Test.YtacekpdjapgfcaaGreatDoorH0an
import Derived.Test.YtacekpdjapgfcaaGreatDoorH0aa
import Derived.Test.YtacekpdjapgfcaaGreatDoorH0ab
import Derived.Test.YtacekpdjapgfcaaGreatDoorH0ae
namespace Go.Q
open Go Go.RowKit
instance : DecidableEq Part := fun p q => if h : p.o = q.o ∧ p.b = q.b then isTrue (by cases p; cases q; simp_all) else isFalse (fun e => h (by rw [e]; exact ⟨rfl, rfl⟩))
theorem Part.ext2 {p q : Part} (h1 : p.o = q.o) (h2 : p.b = q.b) : p = q := by cases p; cases q; simp_all
theorem take_next {α : Type} {l m : List α} {i : Nat} {x : α} (h : l.take i = m.take i) (h1 : l[i]? = some x) (h2 : m[i]? = some x) : l.take (i + 1) = m.take (i + 1) := by
  rw [List.take_add_one, List.take_add_one, h, h1, h2]
theorem ne_at {α : Type} {l m : List α} {i : Nat} {x y : α} (h1 : l[i]? = some x) (h2 : m[i]? = some y) (h : x ≠ y) : l ≠ m := fun e => by
  subst e
  rw [h1] at h2
  exact h (Option.some.inj h2)
theorem eq_of_take {α : Type} {l m : List α} (h : l.length = m.length) (h1 : l.take l.length = m.take l.length) : l = m := by
  rw [List.take_length] at h1
  rw [h1, h, List.take_length]
end Go.Q
namespace Go.Proofs.YtacekpdjapgfcaaGreatDoor
open Go Go.RowKit Go.Q
set_option linter.unusedSimpArgs false
set_option maxRecDepth 20000 in
set_option maxHeartbeats 8000000 in
theorem r14Like_any (v u : Value) (n m : List (List Part)) (w : World) (h : NameAt w v n) (hu : NameAt w u m) :
    Calls Tryz.prog 13 #[v, u] w fun e w' => e = .returned (.bool (decide (n = m))) ∧ Fr (fun _ => False) w w' := by
  have H := Lib.hid h
  have HU := Lib.hid hu
  obtain ⟨a, cap, rfl, hc, hm, -⟩ := h
  obtain ⟨a', cap', rfl, hc', hm', -⟩ := hu
  have hcm : cap ≤ 9223372036854775807 := by unfold maxLen at hm; omega
  have hcm' : cap' ≤ 9223372036854775807 := by unfold maxLen at hm'; omega
  clear hm hm'
  by_cases hlen : n.length = m.length
  · have q1 : ((n.length : Int) != (m.length : Int)) = false := by simp [hlen]
    have q2 : (n.length != m.length) = false := by simp [hlen]
    have q3 : ((n.length : Int) == (m.length : Int)) = true := by simp [hlen]
    have q4 : (n.length == m.length) = true := by simp [hlen]
    have HLEN := Lib.hid hlen
    clear hlen
    go_enter Tryz.func13, Tryz.ntmps13
    go_wp2_with fail
    clear q1 q2 q3 q4
    go_loopg [5] n.length (fun g ii wr => ∃ i : Nat, g = n.length - i ∧ i ≤ n.length ∧ ii = .int .i64 i ∧ n.take i = m.take i ∧ Fr (fun _ => False) w wr)
    case atStart => exact ⟨0, rfl, Nat.zero_le _, rfl, rfl, Fr.refl _⟩
    case round =>
      obtain ⟨i, hg, hi, rfl, ht, F⟩ := hrel
      have HG := Lib.hid hg
      have HT := Lib.hid ht
      have HF := Lib.hid F
      clear hg ht
      by_cases hil : i < n.length
      · have him : i < m.length := by have := HLEN.out; omega
        obtain ⟨a0, cap0, he, _, _, hx⟩ := H.out
        simp only [Value.slice.injEq, true_and] at he
        obtain ⟨rfl, rfl⟩ := he
        obtain ⟨b, off, rfl, hy⟩ := hx (by omega)
        obtain ⟨r, hr⟩ : ∃ r, n[i]? = some r := ⟨_, List.getElem?_eq_getElem hil⟩
        obtain ⟨x, e0, hA⟩ := hy i r hr
        clear hx hy
        obtain ⟨a0, cap0, he, _, _, hx⟩ := HU.out
        simp only [Value.slice.injEq, true_and] at he
        obtain ⟨rfl, rfl⟩ := he
        obtain ⟨b', off', rfl, hy⟩ := hx (by omega)
        obtain ⟨s, hs⟩ : ∃ s, m[i]? = some s := ⟨_, List.getElem?_eq_getElem him⟩
        obtain ⟨y, e0', hA'⟩ := hy i s hs
        clear hx hy
        have HRI := Lib.hid hr
        have HSI := Lib.hid hs
        have HA := Lib.hid hA
        have HA' := Lib.hid hA'
        obtain ⟨ar, cr, rfl, hcr, hmr, -⟩ := hA
        obtain ⟨a2, cs, rfl, hcs, hms, -⟩ := hA'
        have hcr2 : cr ≤ 9223372036854775807 := by unfold maxLen at hmr; omega
        have hcs2 : cs ≤ 9223372036854775807 := by unfold maxLen at hms; omega
        have HE0 := Lib.hid e0
        have HE0' := Lib.hid e0'
        have e0w := F.cell e0 (fun h => h)
        have e0w' := F.cell e0' (fun h => h)
        have r1 : (0 : Int) ≤ (i : Int) := by omega
        have r2 : (i : Int) < (n.length : Int) := by omega
        have r3 : (i : Int) < (m.length : Int) := by omega
        clear hr hs F hmr hms e0 e0'
        by_cases hl2 : r.length = s.length
        · have q1 : ((r.length : Int) != (s.length : Int)) = false := by simp [hl2]
          have q2 : (r.length != s.length) = false := by simp [hl2]
          have q3 : ((r.length : Int) == (s.length : Int)) = true := by simp [hl2]
          have q4 : (r.length == s.length) = true := by simp [hl2]
          have HL2 := Lib.hid hl2
          clear hl2
          go_upto_region 6 with fail
          go_quiet (fail)
          have HF1 := Lib.hid (HF.out.drewN nq)
          generalize (wr.drewN nq) = w1 at *
          go_wp2_with fail
          clear q1 q2 q3 q4 e0w e0w'
          go_loopg [6] r.length (fun g kk wr => ∃ k : Nat, g = r.length - k ∧ k ≤ r.length ∧ kk = .int .i64 k ∧ r.take k = s.take k ∧ Fr (fun _ => False) w wr)
          case atStart => exact ⟨0, rfl, Nat.zero_le _, rfl, rfl, HF1.out⟩
          case round =>
            obtain ⟨k, hg, hk, rfl, ht, F⟩ := hrel
            have HG2 := Lib.hid hg
            have HT2 := Lib.hid ht
            have HF2 := Lib.hid F
            have e0w := F.cell HE0.out (fun h => h)
            have e0w' := F.cell HE0'.out (fun h => h)
            clear hg ht
            by_cases hkl : k < r.length
            · have hks : k < s.length := by have := HL2.out; omega
              obtain ⟨a0, cap0, he, _, _, hx⟩ := HA.out
              simp only [Value.slice.injEq, true_and] at he
              obtain ⟨rfl, rfl⟩ := he
              obtain ⟨b1, o1, rfl, hy⟩ := hx (by omega)
              obtain ⟨p, hp⟩ : ∃ p, r[k]? = some p := ⟨_, List.getElem?_eq_getElem hkl⟩
              obtain ⟨x, y, e1, e2, hpx, hpy⟩ := hy k p hp
              clear hx hy
              obtain ⟨a0, cap0, he, _, _, hx⟩ := HA'.out
              simp only [Value.slice.injEq, true_and] at he
              obtain ⟨rfl, rfl⟩ := he
              obtain ⟨b2, o2, rfl, hy⟩ := hx (by omega)
              obtain ⟨q, hq⟩ : ∃ q, s[k]? = some q := ⟨_, List.getElem?_eq_getElem hks⟩
              obtain ⟨x', y', e1', e2', hqx, hqy⟩ := hy k q hq
              clear hx hy
              rw [Nat.mul_comm] at e1 e2 e1' e2'
              obtain ⟨ax, cx, rfl, -⟩ := Ints.form hpx
              obtain ⟨ay, cy, rfl, -⟩ := Vals.form hpy
              obtain ⟨ax', cx', rfl, -⟩ := Ints.form hqx
              obtain ⟨ay', cy', rfl, -⟩ := Vals.form hqy
              have hS : ∀ w', Fr (fun _ => False) w w' → w'.cell? ⟨b, off + i, none⟩ = some (.slice (some ⟨b1, o1, none⟩) r.length cr) ∧ w'.cell? ⟨b', off' + i, none⟩ = some (.slice (some ⟨b2, o2, none⟩) s.length cs) ∧ w'.cell? ⟨b1, o1 + k * 2, none⟩ = some (.slice ax p.o.length cx) ∧ w'.cell? ⟨b1, o1 + k * 2 + 1, none⟩ = some (.slice ay p.b.length cy) ∧ w'.cell? ⟨b2, o2 + k * 2, none⟩ = some (.slice ax' q.o.length cx') ∧ w'.cell? ⟨b2, o2 + k * 2 + 1, none⟩ = some (.slice ay' q.b.length cy') := fun w' f => ⟨f.cell HE0.out (fun h => h), f.cell HE0'.out (fun h => h), f.cell e1 (fun h => h), f.cell e2 (fun h => h), f.cell e1' (fun h => h), f.cell e2' (fun h => h)⟩
              have HS := Lib.hid hS
              obtain ⟨d1, hd1⟩ : ∃ d1, decide (p.o = q.o) = d1 := ⟨_, rfl⟩
              obtain ⟨d2, hd2⟩ : ∃ d2, decide (p.b = q.b) = d2 := ⟨_, rfl⟩
              have hc1 : ∀ W, Fr (fun _ => False) w W → Calls Tryz.prog 64 #[.slice ax p.o.length cx, .slice ax' q.o.length cx'] W fun e w' => e = .returned (.bool d1) ∧ Fr (fun _ => False) W w' := fun W f => by
                have := r04Same_any _ _ p.o q.o W (hpx.old f) (hqx.old f)
                rw [hd1] at this
                exact this
              have hc2 : ∀ W, Fr (fun _ => False) w W → Calls Tryz.prog 15 #[.slice ay p.b.length cy, .slice ay' q.b.length cy'] W fun e w' => e = .returned (.bool d2) ∧ Fr (fun _ => False) W w' := fun W f => by
                have := r01Same_any _ _ p.b q.b W (hpy.old f) (hqy.old f)
                rw [hd2] at this
                exact this
              have HC1 := Lib.hid hc1
              have HC2 := Lib.hid hc2
              have HD1 := Lib.hid hd1
              have HD2 := Lib.hid hd2
              have HPI := Lib.hid hp
              have HQI := Lib.hid hq
              have s1 : (0 : Int) ≤ (k : Int) := by omega
              have s2 : (k : Int) < (r.length : Int) := by omega
              have s3 : (k : Int) < (s.length : Int) := by omega
              clear hp hq e1 e2 e1' e2' hpx hpy hqx hqy hS hc1 hc2 hd1 hd2
              go_upto_region 11 with fail
              clear e0w e0w'
              have G : Fr (fun _ => False) w wr.drew := F.drew
              clear F
              cases d1 with
              | false =>
                have hne : n ≠ m := ne_at HRI.out HSI.out (ne_at HPI.out HQI.out (fun e => by have := of_decide_eq_false HD1.out; rw [e] at this; exact this rfl))
                have HNE := Lib.hid (decide_eq_false hne)
                clear hne
                refine wp_region_held_drew (S := (fun w' => w'.cell? ⟨b, off + i, none⟩ = some (.slice (some ⟨b1, o1, none⟩) r.length cr) ∧ w'.cell? ⟨b', off' + i, none⟩ = some (.slice (some ⟨b2, o2, none⟩) s.length cs) ∧ w'.cell? ⟨b1, o1 + k * 2, none⟩ = some (.slice ax p.o.length cx) ∧ w'.cell? ⟨b1, o1 + k * 2 + 1, none⟩ = some (.slice ay p.b.length cy) ∧ w'.cell? ⟨b2, o2 + k * 2, none⟩ = some (.slice ax' q.o.length cx') ∧ w'.cell? ⟨b2, o2 + k * 2 + 1, none⟩ = some (.slice ay' q.b.length cy'))) (by kernel_rfl) ?_ (fun hHeld => ?_)
                · exact HS.out _ G
                refine wpAnyH_take (i := 0) (v := ?vr0) (held_at held_z) (by kernel_rfl) (by kernel_rfl) (by kernel_rfl) (fun _ _ _ h => h) (Or.inl ⟨by rfl, ?hyr0⟩) (by assumption) ?restr0
                case hyr0 => intro w9 hSw; (try dsimp only at hSw); go_simp; all_goals with_reducible rfl
                try simp only [Act.put, List.setIfInBounds_toArray, List.set_cons_zero, List.set_cons_succ]
                refine wpAnyH_take (i := 1) (v := ?vr1) (held_at (held_s held_z)) (by kernel_rfl) (by kernel_rfl) (by kernel_rfl) (fun _ _ _ h => h) (Or.inl ⟨by rfl, ?hyr1⟩) (by assumption) ?restr1
                case hyr1 => intro w9 hSw; (try dsimp only at hSw); go_simp; all_goals with_reducible rfl
                try simp only [Act.put, List.setIfInBounds_toArray, List.set_cons_zero, List.set_cons_succ]
                refine wpAnyH_take (i := 2) (v := ?vr2) (held_at (held_s (held_s held_z))) (by kernel_rfl) (by kernel_rfl) (by kernel_rfl) (fun _ _ _ h => h) (Or.inl ⟨by rfl, ?hyr2⟩) (by assumption) ?restr2
                case hyr2 => intro w9 hSw; (try dsimp only at hSw); go_simp; all_goals with_reducible rfl
                try simp only [Act.put, List.setIfInBounds_toArray, List.set_cons_zero, List.set_cons_succ]
                refine wpAnyH_take (i := 3) (v := ?vr3) (held_at (held_s (held_s (held_s held_z)))) (by kernel_rfl) (by kernel_rfl) (by kernel_rfl) (fun _ _ _ h => h) (Or.inl ⟨by rfl, ?hyr3⟩) (by assumption) ?restr3
                case hyr3 => intro w9 hSw; (try dsimp only at hSw); go_simp; all_goals with_reducible rfl
                try simp only [Act.put, List.setIfInBounds_toArray, List.set_cons_zero, List.set_cons_succ]
                refine wpAnyH_take (i := 4) (v := ?vr4) (held_at (held_s (held_s (held_s (held_s held_z))))) (by kernel_rfl) (by kernel_rfl) (by kernel_rfl) (fun _ _ _ h => h) (Or.inl ⟨by rfl, ?hyr4⟩) (by assumption) ?restr4
                case hyr4 => intro w9 hSw; (try dsimp only at hSw); go_simp; all_goals with_reducible rfl
                try simp only [Act.put, List.setIfInBounds_toArray, List.set_cons_zero, List.set_cons_succ]
                refine wpAnyH_take (i := 5) (v := ?vr5) (held_at (held_s (held_s (held_s (held_s (held_s held_z)))))) (by kernel_rfl) (by kernel_rfl) (by kernel_rfl) (fun _ _ _ h => h) (Or.inl ⟨by rfl, ?hyr5⟩) (by assumption) ?restr5
                case hyr5 => intro w9 hSw; (try dsimp only at hSw); go_simp; all_goals with_reducible rfl
                try simp only [Act.put, List.setIfInBounds_toArray, List.set_cons_zero, List.set_cons_succ]
                refine wpAnyH_take (i := 6) (v := ?vr6) (held_at (held_s (held_s (held_s (held_s (held_s (held_s held_z))))))) (by kernel_rfl) (by kernel_rfl) (by kernel_rfl) (fun _ _ _ h => h) (Or.inl ⟨by rfl, ?hyr6⟩) (by assumption) ?restr6
                case hyr6 => intro w9 hSw; (try dsimp only at hSw); go_simp; all_goals with_reducible rfl
                try simp only [Act.put, List.setIfInBounds_toArray, List.set_cons_zero, List.set_cons_succ]
                refine wpAnyH_take (i := 7) (v := ?vr7) (held_at (held_s (held_s (held_s (held_s (held_s (held_s (held_s held_z)))))))) (by kernel_rfl) (by kernel_rfl) (by kernel_rfl) (fun _ _ _ h => h) (Or.inl ⟨by rfl, ?hyr7⟩) (by assumption) ?restr7
                case hyr7 => intro w9 hSw; (try dsimp only at hSw); go_simp; all_goals with_reducible rfl
                try simp only [Act.put, List.setIfInBounds_toArray, List.set_cons_zero, List.set_cons_succ]
                refine wpAnyH_take (i := 8) (v := ?vr8) (held_at (held_s (held_s (held_s (held_s (held_s (held_s (held_s (held_s held_z))))))))) (by kernel_rfl) (by kernel_rfl) (by kernel_rfl) (fun _ _ _ h => h) (Or.inl ⟨by rfl, ?hyr8⟩) (by assumption) ?restr8
                case hyr8 => intro w9 hSw; (try dsimp only at hSw); go_simp; all_goals with_reducible rfl
                try simp only [Act.put, List.setIfInBounds_toArray, List.set_cons_zero, List.set_cons_succ]
                refine wpAnyH_take (i := 9) (v := ?vr9) (held_at (held_s (held_s (held_s (held_s (held_s (held_s (held_s (held_s (held_s held_z)))))))))) (by kernel_rfl) (by kernel_rfl) (by kernel_rfl) (fun _ _ _ h => h) (Or.inl ⟨by rfl, ?hyr9⟩) (by assumption) ?restr9
                case hyr9 => intro w9 hSw; (try dsimp only at hSw); go_simp; all_goals with_reducible rfl
                try simp only [Act.put, List.setIfInBounds_toArray, List.set_cons_zero, List.set_cons_succ]
                refine wpAnyH_take (i := 10) (v := ?vr10) (held_at (held_s (held_s (held_s (held_s (held_s (held_s (held_s (held_s (held_s (held_s held_z))))))))))) (by kernel_rfl) (by kernel_rfl) (by kernel_rfl) (fun _ _ _ h => h) (Or.inl ⟨by rfl, ?hyr10⟩) (by assumption) ?restr10
                case hyr10 => intro w9 hSw; (try dsimp only at hSw); go_simp; all_goals with_reducible rfl
                try simp only [Act.put, List.setIfInBounds_toArray, List.set_cons_zero, List.set_cons_succ]
                refine wpAnyH_take (i := 11) (v := ?vr11) (held_at (held_s (held_s (held_s (held_s (held_s (held_s (held_s (held_s (held_s (held_s (held_s held_z)))))))))))) (by kernel_rfl) (by kernel_rfl) (by kernel_rfl) (fun _ _ _ h => h) (Or.inl ⟨by rfl, ?hyr11⟩) (by assumption) ?restr11
                case hyr11 => intro w9 hSw; (try dsimp only at hSw); go_simp; all_goals with_reducible rfl
                try simp only [Act.put, List.setIfInBounds_toArray, List.set_cons_zero, List.set_cons_succ]
                refine wpAnyH_take (i := 12) (v := ?vr12) (held_at (held_s (held_s (held_s (held_s (held_s (held_s (held_s (held_s (held_s (held_s (held_s (held_s held_z))))))))))))) (by kernel_rfl) (by kernel_rfl) (by kernel_rfl) (fun _ _ _ h => h) (Or.inl ⟨by rfl, ?hyr12⟩) (by assumption) ?restr12
                case hyr12 => intro w9 hSw; (try dsimp only at hSw); go_simp; all_goals with_reducible rfl
                try simp only [Act.put, List.setIfInBounds_toArray, List.set_cons_zero, List.set_cons_succ]
                refine wpAnyH_take (i := 13) (v := ?vr13) (held_at (held_s (held_s (held_s (held_s (held_s (held_s (held_s (held_s (held_s (held_s (held_s (held_s (held_s held_z)))))))))))))) (by kernel_rfl) (by kernel_rfl) (by kernel_rfl) (fun _ _ _ h => h) (Or.inl ⟨by rfl, ?hyr13⟩) (by assumption) ?restr13
                case hyr13 => intro w9 hSw; (try dsimp only at hSw); go_simp; all_goals with_reducible rfl
                try simp only [Act.put, List.setIfInBounds_toArray, List.set_cons_zero, List.set_cons_succ]
                refine wpAnyH_take (i := 14) (v := ?vr14) (held_at (held_s (held_s (held_s (held_s (held_s (held_s (held_s (held_s (held_s (held_s (held_s (held_s (held_s (held_s held_z))))))))))))))) (by kernel_rfl) (by kernel_rfl) (by kernel_rfl) (fun _ _ _ h => h) (Or.inl ⟨by rfl, ?hyr14⟩) (by assumption) ?restr14
                case hyr14 => intro w9 hSw; (try dsimp only at hSw); go_simp; all_goals with_reducible rfl
                try simp only [Act.put, List.setIfInBounds_toArray, List.set_cons_zero, List.set_cons_succ]
                refine wpAnyH_take (i := 15) (v := ?vr15) (held_at (held_s (held_s (held_s (held_s (held_s (held_s (held_s (held_s (held_s (held_s (held_s (held_s (held_s (held_s (held_s held_z)))))))))))))))) (by kernel_rfl) (by kernel_rfl) (by kernel_rfl) (fun _ _ _ h => h) (Or.inl ⟨by rfl, ?hyr15⟩) (by assumption) ?restr15
                case hyr15 => intro w9 hSw; (try dsimp only at hSw); go_simp; all_goals with_reducible rfl
                try simp only [Act.put, List.setIfInBounds_toArray, List.set_cons_zero, List.set_cons_succ]
                refine wpAnyH_ready (rs := [16]) (by kernel_rfl) (by simp) ?_
                refine AllReadyH.cons (held_at (held_s (held_s (held_s (held_s (held_s (held_s (held_s (held_s (held_s (held_s (held_s (held_s (held_s (held_s (held_s (held_s held_z))))))))))))))))) (fun K hK => ?_) AllReadyH.nil
                go_simp
                go_at_call 64; (with_reducible refine (HC1.out _ G).mono ?_); rintro e w' ⟨rfl, F⟩; replace G := G.trans F
                try go_wp2_with fail
                refine hK.out _ _ ?_ (fun hHeld => ?_)
                · exact HS.out _ G
                clear hK K
                try simp only [Act.put, List.setIfInBounds_toArray, List.set_cons_zero, List.set_cons_succ]
                refine wpAnyH_take (i := 17) (v := ?vr17) (held_at (held_s (held_s (held_s (held_s (held_s (held_s (held_s (held_s (held_s (held_s (held_s (held_s (held_s (held_s (held_s (held_s (held_s held_z)))))))))))))))))) (by kernel_rfl) (by kernel_rfl) (by kernel_rfl) (fun _ _ _ h => h) (Or.inl ⟨by rfl, ?hyr17⟩) (by assumption) ?restr17
                case hyr17 => intro w9 hSw; (try dsimp only at hSw); go_simp; all_goals with_reducible rfl
                try simp only [Act.put, List.setIfInBounds_toArray, List.set_cons_zero, List.set_cons_succ]
                refine wpAnyH_take (i := 18) (v := ?vr18) (held_at (held_s (held_s (held_s (held_s (held_s (held_s (held_s (held_s (held_s (held_s (held_s (held_s (held_s (held_s (held_s (held_s (held_s (held_s held_z))))))))))))))))))) (by kernel_rfl) (by kernel_rfl) (by kernel_rfl) (fun _ _ _ h => h) (Or.inl ⟨by rfl, ?hyr18⟩) (by assumption) ?restr18
                case hyr18 => intro w9 hSw; (try dsimp only at hSw); go_simp; all_goals with_reducible rfl
                try simp only [Act.put, List.setIfInBounds_toArray, List.set_cons_zero, List.set_cons_succ]
                refine wpAnyH_take (i := 19) (v := undef) (held_at (held_s (held_s (held_s (held_s (held_s (held_s (held_s (held_s (held_s (held_s (held_s (held_s (held_s (held_s (held_s (held_s (held_s (held_s (held_s held_z)))))))))))))))))))) (by kernel_rfl) (by kernel_rfl) (by kernel_rfl) (fun _ _ _ h => h) (Or.inr ⟨by rfl, rfl⟩) (by assumption) ?_
                try simp only [Act.put, List.setIfInBounds_toArray, List.set_cons_zero, List.set_cons_succ]
                refine wpAnyH_take (i := 20) (v := undef) (held_at (held_s (held_s (held_s (held_s (held_s (held_s (held_s (held_s (held_s (held_s (held_s (held_s (held_s (held_s (held_s (held_s (held_s (held_s (held_s (held_s held_z))))))))))))))))))))) (by kernel_rfl) (by kernel_rfl) (by kernel_rfl) (fun _ _ _ h => h) (Or.inr ⟨by rfl, rfl⟩) (by assumption) ?_
                try simp only [Act.put, List.setIfInBounds_toArray, List.set_cons_zero, List.set_cons_succ]
                refine wpAnyH_take (i := 21) (v := undef) (held_at (held_s (held_s (held_s (held_s (held_s (held_s (held_s (held_s (held_s (held_s (held_s (held_s (held_s (held_s (held_s (held_s (held_s (held_s (held_s (held_s (held_s held_z)))))))))))))))))))))) (by kernel_rfl) (by kernel_rfl) (by kernel_rfl) (fun _ _ _ h => h) (Or.inr ⟨by rfl, rfl⟩) (by assumption) ?_
                try simp only [Act.put, List.setIfInBounds_toArray, List.set_cons_zero, List.set_cons_succ]
                refine wpAnyH_take (i := 22) (v := undef) (held_at (held_s (held_s (held_s (held_s (held_s (held_s (held_s (held_s (held_s (held_s (held_s (held_s (held_s (held_s (held_s (held_s (held_s (held_s (held_s (held_s (held_s (held_s held_z))))))))))))))))))))))) (by kernel_rfl) (by kernel_rfl) (by kernel_rfl) (fun _ _ _ h => h) (Or.inr ⟨by rfl, rfl⟩) (by assumption) ?_
                try simp only [Act.put, List.setIfInBounds_toArray, List.set_cons_zero, List.set_cons_succ]
                refine wpAnyH_take (i := 23) (v := undef) (held_at (held_s (held_s (held_s (held_s (held_s (held_s (held_s (held_s (held_s (held_s (held_s (held_s (held_s (held_s (held_s (held_s (held_s (held_s (held_s (held_s (held_s (held_s (held_s held_z)))))))))))))))))))))))) (by kernel_rfl) (by kernel_rfl) (by kernel_rfl) (fun _ _ _ h => h) (Or.inr ⟨by rfl, rfl⟩) (by assumption) ?_
                try simp only [Act.put, List.setIfInBounds_toArray, List.set_cons_zero, List.set_cons_succ]
                refine wpAnyH_take (i := 24) (v := undef) (held_at (held_s (held_s (held_s (held_s (held_s (held_s (held_s (held_s (held_s (held_s (held_s (held_s (held_s (held_s (held_s (held_s (held_s (held_s (held_s (held_s (held_s (held_s (held_s (held_s held_z))))))))))))))))))))))))) (by kernel_rfl) (by kernel_rfl) (by kernel_rfl) (fun _ _ _ h => h) (Or.inr ⟨by rfl, rfl⟩) (by assumption) ?_
                try simp only [Act.put, List.setIfInBounds_toArray, List.set_cons_zero, List.set_cons_succ]
                refine wpAnyH_take (i := 25) (v := undef) (held_at (held_s (held_s (held_s (held_s (held_s (held_s (held_s (held_s (held_s (held_s (held_s (held_s (held_s (held_s (held_s (held_s (held_s (held_s (held_s (held_s (held_s (held_s (held_s (held_s (held_s held_z)))))))))))))))))))))))))) (by kernel_rfl) (by kernel_rfl) (by kernel_rfl) (fun _ _ _ h => h) (Or.inr ⟨by rfl, rfl⟩) (by assumption) ?_
                try simp only [Act.put, List.setIfInBounds_toArray, List.set_cons_zero, List.set_cons_succ]
                refine wpAnyH_take (i := 26) (v := undef) (held_at (held_s (held_s (held_s (held_s (held_s (held_s (held_s (held_s (held_s (held_s (held_s (held_s (held_s (held_s (held_s (held_s (held_s (held_s (held_s (held_s (held_s (held_s (held_s (held_s (held_s (held_s held_z))))))))))))))))))))))))))) (by kernel_rfl) (by kernel_rfl) (by kernel_rfl) (fun _ _ _ h => h) (Or.inr ⟨by rfl, rfl⟩) (by assumption) ?_
                try simp only [Act.put, List.setIfInBounds_toArray, List.set_cons_zero, List.set_cons_succ]
                refine wpAnyH_take (i := 27) (v := undef) (held_at (held_s (held_s (held_s (held_s (held_s (held_s (held_s (held_s (held_s (held_s (held_s (held_s (held_s (held_s (held_s (held_s (held_s (held_s (held_s (held_s (held_s (held_s (held_s (held_s (held_s (held_s (held_s held_z)))))))))))))))))))))))))))) (by kernel_rfl) (by kernel_rfl) (by kernel_rfl) (fun _ _ _ h => h) (Or.inr ⟨by rfl, rfl⟩) (by assumption) ?_
                try simp only [Act.put, List.setIfInBounds_toArray, List.set_cons_zero, List.set_cons_succ]
                refine wpAnyH_take (i := 28) (v := undef) (held_at (held_s (held_s (held_s (held_s (held_s (held_s (held_s (held_s (held_s (held_s (held_s (held_s (held_s (held_s (held_s (held_s (held_s (held_s (held_s (held_s (held_s (held_s (held_s (held_s (held_s (held_s (held_s (held_s held_z))))))))))))))))))))))))))))) (by kernel_rfl) (by kernel_rfl) (by kernel_rfl) (fun _ _ _ h => h) (Or.inr ⟨by rfl, rfl⟩) (by assumption) ?_
                try simp only [Act.put, List.setIfInBounds_toArray, List.set_cons_zero, List.set_cons_succ]
                refine wpAnyH_take (i := 29) (v := undef) (held_at (held_s (held_s (held_s (held_s (held_s (held_s (held_s (held_s (held_s (held_s (held_s (held_s (held_s (held_s (held_s (held_s (held_s (held_s (held_s (held_s (held_s (held_s (held_s (held_s (held_s (held_s (held_s (held_s (held_s held_z)))))))))))))))))))))))))))))) (by kernel_rfl) (by kernel_rfl) (by kernel_rfl) (fun _ _ _ h => h) (Or.inr ⟨by rfl, rfl⟩) (by assumption) ?_
                try simp only [Act.put, List.setIfInBounds_toArray, List.set_cons_zero, List.set_cons_succ]
                refine wpAnyH_take (i := 30) (v := undef) (held_at (held_s (held_s (held_s (held_s (held_s (held_s (held_s (held_s (held_s (held_s (held_s (held_s (held_s (held_s (held_s (held_s (held_s (held_s (held_s (held_s (held_s (held_s (held_s (held_s (held_s (held_s (held_s (held_s (held_s (held_s held_z))))))))))))))))))))))))))))))) (by kernel_rfl) (by kernel_rfl) (by kernel_rfl) (fun _ _ _ h => h) (Or.inr ⟨by rfl, rfl⟩) (by assumption) ?_
                try simp only [Act.put, List.setIfInBounds_toArray, List.set_cons_zero, List.set_cons_succ]
                refine wpAnyH_take (i := 31) (v := undef) (held_at (held_s (held_s (held_s (held_s (held_s (held_s (held_s (held_s (held_s (held_s (held_s (held_s (held_s (held_s (held_s (held_s (held_s (held_s (held_s (held_s (held_s (held_s (held_s (held_s (held_s (held_s (held_s (held_s (held_s (held_s (held_s held_z)))))))))))))))))))))))))))))))) (by kernel_rfl) (by kernel_rfl) (by kernel_rfl) (fun _ _ _ h => h) (Or.inr ⟨by rfl, rfl⟩) (by assumption) ?_
                try simp only [Act.put, List.setIfInBounds_toArray, List.set_cons_zero, List.set_cons_succ]
                refine wpAnyH_take (i := 32) (v := undef) (held_at (held_s (held_s (held_s (held_s (held_s (held_s (held_s (held_s (held_s (held_s (held_s (held_s (held_s (held_s (held_s (held_s (held_s (held_s (held_s (held_s (held_s (held_s (held_s (held_s (held_s (held_s (held_s (held_s (held_s (held_s (held_s (held_s held_z))))))))))))))))))))))))))))))))) (by kernel_rfl) (by kernel_rfl) (by kernel_rfl) (fun _ _ _ h => h) (Or.inr ⟨by rfl, rfl⟩) (by assumption) ?_
                try simp only [Act.put, List.setIfInBounds_toArray, List.set_cons_zero, List.set_cons_succ]
                refine wpAnyH_take (i := 33) (v := undef) (held_at (held_s (held_s (held_s (held_s (held_s (held_s (held_s (held_s (held_s (held_s (held_s (held_s (held_s (held_s (held_s (held_s (held_s (held_s (held_s (held_s (held_s (held_s (held_s (held_s (held_s (held_s (held_s (held_s (held_s (held_s (held_s (held_s (held_s held_z)))))))))))))))))))))))))))))))))) (by kernel_rfl) (by kernel_rfl) (by kernel_rfl) (fun _ _ _ h => h) (Or.inr ⟨by rfl, rfl⟩) (by assumption) ?_
                try simp only [Act.put, List.setIfInBounds_toArray, List.set_cons_zero, List.set_cons_succ]
                refine wpAnyH_take (i := 34) (v := undef) (held_at (held_s (held_s (held_s (held_s (held_s (held_s (held_s (held_s (held_s (held_s (held_s (held_s (held_s (held_s (held_s (held_s (held_s (held_s (held_s (held_s (held_s (held_s (held_s (held_s (held_s (held_s (held_s (held_s (held_s (held_s (held_s (held_s (held_s (held_s held_z))))))))))))))))))))))))))))))))))) (by kernel_rfl) (by kernel_rfl) (by kernel_rfl) (fun _ _ _ h => h) (Or.inr ⟨by rfl, rfl⟩) (by assumption) ?_
                try simp only [Act.put, List.setIfInBounds_toArray, List.set_cons_zero, List.set_cons_succ]
                refine wpAnyH_take (i := 35) (v := undef) (held_at (held_s (held_s (held_s (held_s (held_s (held_s (held_s (held_s (held_s (held_s (held_s (held_s (held_s (held_s (held_s (held_s (held_s (held_s (held_s (held_s (held_s (held_s (held_s (held_s (held_s (held_s (held_s (held_s (held_s (held_s (held_s (held_s (held_s (held_s (held_s held_z)))))))))))))))))))))))))))))))))))) (by kernel_rfl) (by kernel_rfl) (by kernel_rfl) (fun _ _ _ h => h) (Or.inr ⟨by rfl, rfl⟩) (by assumption) ?_
                try simp only [Act.put, List.setIfInBounds_toArray, List.set_cons_zero, List.set_cons_succ]
                refine wpAnyH_take (i := 36) (v := undef) (held_at (held_s (held_s (held_s (held_s (held_s (held_s (held_s (held_s (held_s (held_s (held_s (held_s (held_s (held_s (held_s (held_s (held_s (held_s (held_s (held_s (held_s (held_s (held_s (held_s (held_s (held_s (held_s (held_s (held_s (held_s (held_s (held_s (held_s (held_s (held_s (held_s held_z))))))))))))))))))))))))))))))))))))) (by kernel_rfl) (by kernel_rfl) (by kernel_rfl) (fun _ _ _ h => h) (Or.inr ⟨by rfl, rfl⟩) (by assumption) ?_
                try simp only [Act.put, List.setIfInBounds_toArray, List.set_cons_zero, List.set_cons_succ]
                refine wpAnyH_take (i := 37) (v := ?vr37) (held_at (held_s (held_s (held_s (held_s (held_s (held_s (held_s (held_s (held_s (held_s (held_s (held_s (held_s (held_s (held_s (held_s (held_s (held_s (held_s (held_s (held_s (held_s (held_s (held_s (held_s (held_s (held_s (held_s (held_s (held_s (held_s (held_s (held_s (held_s (held_s (held_s (held_s held_z)))))))))))))))))))))))))))))))))))))) (by kernel_rfl) (by kernel_rfl) (by kernel_rfl) (fun _ _ _ h => h) (Or.inl ⟨by rfl, ?hyr37⟩) (by assumption) ?restr37
                case hyr37 => intro w9 hSw; (try dsimp only at hSw); go_simp; all_goals with_reducible rfl
                try simp only [Act.put, List.setIfInBounds_toArray, List.set_cons_zero, List.set_cons_succ]
                refine wpAnyH_done (by kernel_rfl) ?_ _
                all_goals
                  go_wp2_with fail
                  go_ret
                  exact ⟨by rw [HNE.out]; rfl, G⟩
              | true =>
                cases d2 with
                | false =>
                  have hne : n ≠ m := ne_at HRI.out HSI.out (ne_at HPI.out HQI.out (fun e => by have := of_decide_eq_false HD2.out; rw [e] at this; exact this rfl))
                  have HNE := Lib.hid (decide_eq_false hne)
                  clear hne
                  go_region_held3 (fun w' => w'.cell? ⟨b, off + i, none⟩ = some (.slice (some ⟨b1, o1, none⟩) r.length cr) ∧ w'.cell? ⟨b', off' + i, none⟩ = some (.slice (some ⟨b2, o2, none⟩) s.length cs) ∧ w'.cell? ⟨b1, o1 + k * 2, none⟩ = some (.slice ax p.o.length cx) ∧ w'.cell? ⟨b1, o1 + k * 2 + 1, none⟩ = some (.slice ay p.b.length cy) ∧ w'.cell? ⟨b2, o2 + k * 2, none⟩ = some (.slice ax' q.o.length cx') ∧ w'.cell? ⟨b2, o2 + k * 2 + 1, none⟩ = some (.slice ay' q.b.length cy')) (exact HS.out _ G) (first
                    | (go_at_call 64; refine (HC1.out _ G).mono ?_; rintro e w' ⟨rfl, F⟩; replace G := G.trans F)
                    | (go_at_call 15; refine (HC2.out _ G).mono ?_; rintro e w' ⟨rfl, F⟩; replace G := G.trans F))
                  all_goals
                    go_wp2_with fail
                    go_ret
                    exact ⟨by rw [HNE.out]; rfl, G⟩
                | true =>
                  have hpq : p = q := Part.ext2 (of_decide_eq_true HD1.out) (of_decide_eq_true HD2.out)
                  have HNT := Lib.hid (take_next HT2.out HPI.out (by rw [hpq]; exact HQI.out))
                  clear hpq
                  go_region_held3 (fun w' => w'.cell? ⟨b, off + i, none⟩ = some (.slice (some ⟨b1, o1, none⟩) r.length cr) ∧ w'.cell? ⟨b', off' + i, none⟩ = some (.slice (some ⟨b2, o2, none⟩) s.length cs) ∧ w'.cell? ⟨b1, o1 + k * 2, none⟩ = some (.slice ax p.o.length cx) ∧ w'.cell? ⟨b1, o1 + k * 2 + 1, none⟩ = some (.slice ay p.b.length cy) ∧ w'.cell? ⟨b2, o2 + k * 2, none⟩ = some (.slice ax' q.o.length cx') ∧ w'.cell? ⟨b2, o2 + k * 2 + 1, none⟩ = some (.slice ay' q.b.length cy')) (exact HS.out _ G) (first
                    | (go_at_call 64; refine (HC1.out _ G).mono ?_; rintro e w' ⟨rfl, F⟩; replace G := G.trans F)
                    | (go_at_call 15; refine (HC2.out _ G).mono ?_; rintro e w' ⟨rfl, F⟩; replace G := G.trans F))
                  all_goals
                    go_wp2_with fail
                    go_roundg (r.length - (k + 1))
                    case measure => rw [HG2.out]; omega
                    case rel => exact ⟨k + 1, rfl, by omega, by go_num, HNT.out, G⟩
            · obtain rfl : k = r.length := by omega
              have hrs : r = s := eq_of_take HL2.out HT2.out
              have HNT := Lib.hid (take_next HT.out HRI.out (by rw [hrs]; exact HSI.out))
              clear hrs
              go_wp2_with fail
              go_roundg (n.length - (i + 1))
              case measure => rw [HG.out]; omega
              case rel => exact ⟨i + 1, rfl, by omega, by go_num, HNT.out, F⟩
        · have q1 : ((r.length : Int) != (s.length : Int)) = true := by simp; omega
          have q2 : (r.length != s.length) = true := by simpa using hl2
          have q3 : ((r.length : Int) == (s.length : Int)) = false := by simp; omega
          have q4 : (r.length == s.length) = false := by simpa using hl2
          have hne : n ≠ m := ne_at HRI.out HSI.out (fun e => hl2 (by rw [e]))
          have HNE := Lib.hid (decide_eq_false hne)
          clear hne hl2
          go_upto_region 6 with fail
          go_quiet (fail)
          have HF1 := Lib.hid (HF.out.drewN nq)
          generalize (wr.drewN nq) = w1 at *
          go_wp2_with fail
          go_ret
          exact ⟨by rw [HNE.out]; rfl, HF1.out⟩
      · obtain rfl : i = n.length := by omega
        have hnm : n = m := eq_of_take HLEN.out HT.out
        have HNM := Lib.hid (decide_eq_true hnm)
        clear hnm
        go_wp2_with fail
        go_ret
        exact ⟨by rw [HNM.out]; rfl, F⟩
  · have q1 : ((n.length : Int) != (m.length : Int)) = true := by simp; omega
    have q2 : (n.length != m.length) = true := by simpa using hlen
    have q3 : ((n.length : Int) == (m.length : Int)) = false := by simp; omega
    have q4 : (n.length == m.length) = false := by simpa using hlen
    have hne : n ≠ m := fun e => hlen (by rw [e])
    have HNE := Lib.hid (decide_eq_false hne)
    clear hne hlen
    go_enter Tryz.func13, Tryz.ntmps13
    go_wp2_with fail
    go_ret
    exact ⟨by rw [HNE.out]; rfl, Fr.refl _⟩
end Go.Proofs.YtacekpdjapgfcaaGreatDoor

namespace Go.Q
open Go Go.RowKit
theorem Vals.piece {w : World} {a : Option Addr} {m cap : Nat} {l : List UInt8} (h : Bytes w (.slice a m cap) l) (i n : Nat) (hij : i + n ≤ l.length) (a' : Option Addr) (cap' : Nat) (ha : 0 < n → ∀ b o, a = some ⟨b, o, none⟩ → a' = some ⟨b, o + i, none⟩) (hc : n ≤ cap') (hm : cap' ≤ maxLen) : Bytes w (.slice a' n cap') ((l.drop i).take n) := by
  obtain ⟨a0, c0, he, -⟩ := Vals.form h
  simp only [Value.slice.injEq] at he
  obtain ⟨rfl, rfl, rfl⟩ := he
  have := Vals.sub h i (i + n) (by omega) hij a' cap' (fun h0 => ha (by omega)) (by omega) hm
  rw [show i + n - i = n from by omega] at this
  unfold Bytes Lib.byteCells
  rw [List.map_take, List.map_drop]
  exact this
end Go.Q
namespace Go.Proofs.YtacekpdjapgfcaaGreatDoor
open Go Go.RowKit Go.Q
set_option linter.unusedSimpArgs false
theorem slice_rest (a : Option Addr) (m cap : Nat) (hm : m ≤ cap) (i : Nat) (hi : i ≤ m) :
    ∃ A, (∀ w, (Instr.slice 23 (.slice a m cap) (some (.int .i64 (i : Int))) none none).run Tryz.prog w = .ok (.slice A (m - i) (cap - i)) w) ∧ (i < m → ∀ b o, a = some ⟨b, o, none⟩ → A = some ⟨b, o + i, none⟩) := by
  have h1 : (0 : Int) ≤ (i : Int) := by omega
  have h2 : (i : Int) ≤ (m : Int) := by omega
  have h3 : (m : Int) ≤ (cap : Int) := by omega
  by_cases hc : cap - i = 0
  · refine ⟨a, fun w => ?_, fun h => by omega⟩
    simp [go_sem, h1, h2, h3, hc, Tryz.underlying23]
    intro h; omega
  · refine ⟨a.map fun x => x.add i, fun w => ?_, fun h b o e => by rw [e]; unfold Addr.add; simp⟩
    simp [go_sem, h1, h2, h3, hc, Tryz.underlying23]
    intro h; omega
theorem bytes_rest {w : World} {a : Option Addr} {m cap : Nat} {l : List UInt8} (h : Bytes w (.slice a m cap) l) (i : Nat) (hi : i ≤ l.length) :
    ∃ A, (∀ w, (Instr.slice 23 (.slice a m cap) (some (.int .i64 (i : Int))) none none).run Tryz.prog w = .ok (.slice A (l.length - i) (cap - i)) w) ∧ ∀ W, Bytes W (.slice a m cap) l → Bytes W (.slice A (l.length - i) (cap - i)) (l.drop i) := by
  obtain ⟨a0, c0, he, hc, hm, -⟩ := Vals.form h
  simp only [Value.slice.injEq] at he
  obtain ⟨rfl, rfl, rfl⟩ := he
  obtain ⟨A, h1, h2⟩ := slice_rest a l.length cap hc i hi
  refine ⟨A, h1, fun W hW => ?_⟩
  have := hW.piece i (l.length - i) (by omega) A (cap - i) (fun h0 => h2 (by omega)) (by omega) (by omega)
  rwa [List.take_of_length_le (by rw [List.length_drop]; exact Nat.le_refl _)] at this
end Go.Proofs.YtacekpdjapgfcaaGreatDoor

namespace Go.Proofs.YtacekpdjapgfcaaGreatDoor
open Go Go.RowKit Go.Q
set_option linter.unusedSimpArgs false
def NewCur (w w' : World) (g : Nat) (l : List UInt8) : Prop := w.heap.size ≤ g ∧ CurAt w' g (fun k => k < w.heap.size) l 0
set_option maxRecDepth 20000 in
theorem sub_ok {w : World} {c : Nat} {K : Nat → Prop} {bs : List UInt8} {i : Nat} (h : CurAt w c K bs i) (n : Nat) (hn : n ≤ bs.length - i) :
    Calls Tryz.prog 127 #[pt c, .int .i64 n] w fun e w' => ∃ g, e = .returned (.tuple #[pt g, .int .i64 0]) ∧ NewCur w w' g ((bs.drop i).take n) ∧ CurAt w' c K bs (i + n) ∧ Fr (fun k => k = c) w w' := by
  have hsm := h.small
  have hle := h.le
  have hcl := h.lt
  obtain ⟨l, hl⟩ : ∃ l, l = (bs.drop i).take n := ⟨_, rfl⟩
  have hll : l.length = n := by rw [hl, List.length_take, List.length_drop]; omega
  have HT := Lib.hid (take_ok h n hn)
  rw [← hl] at HT ⊢
  have HLL := Lib.hid hll
  clear hl hll h
  go_enter Tryz.func127, Tryz.ntmps127
  go_wp2_with fail
  refine HT.out.mono ?_
  rintro e w1 ⟨v, rfl, ho, C1, F1⟩
  have hv := Vals.of_own ho
  have HV := Lib.hid hv
  obtain ⟨a, m, cap, rfl, rfl⟩ := own_shape ho
  have HC1 := Lib.hid C1
  have HF1 := Lib.hid F1
  have hs1 := F1.size
  clear HT ho hv C1 F1
  go_wp2_with fail
  have F2 : Fr (fun _ => False) w1 (w1.alloc (.cells #[.slice a m cap, .int .i64 0] 116)) := (Fr.refl w1).alloc _
  refine bodyPost_ret (v := .tuple #[pt w1.heap.size, .int .i64 0]) (by simp [results, Tryz.results127, go_sem]) rfl ⟨_, rfl, ⟨hs1, _, Blk.new w1 _ _, HV.out.1.old F2, Nat.zero_le _, by rw [HLL.out]; omega, by omega, fun _ k hk e => ?_⟩, HC1.out.old F2, HF1.out.trans (F2.mono (fun _ _ h => h.elim))⟩
  have := HV.out.2 k hk
  omega
theorem sub_end {w : World} {c : Nat} {K : Nat → Prop} {bs : List UInt8} {i : Nat} (h : CurAt w c K bs i) (n : Nat) (hn : bs.length - i < n) :
    Calls Tryz.prog 127 #[pt c, .int .i64 n] w fun e w' => e = .returned (.tuple #[.pointer none, .int .i64 3]) ∧ Fr (fun _ => False) w w' := by
  have HT := Lib.hid (take_end h n hn)
  clear h
  go_enter Tryz.func127, Tryz.ntmps127
  go_wp2_with fail
  refine HT.out.mono ?_
  rintro e w1 ⟨rfl, F1⟩
  go_wp2_with fail
  exact bodyPost_ret (v := .tuple #[.pointer none, .int .i64 3]) (by simp [results, Tryz.results127, go_sem]) rfl ⟨rfl, F1⟩
theorem NewCur.up {w w1 w' : World} {g : Nat} {l : List UInt8} (h : NewCur w1 w' g l) (hs : w.heap.size ≤ w1.heap.size) : NewCur w w' g l :=
  ⟨Nat.le_trans hs h.1, h.2.step (Fr.refl w') (S := fun _ => False) (fun _ _ h => h.elim) (fun _ hk => .inl (Nat.lt_of_lt_of_le hk hs))⟩
set_option maxRecDepth 20000 in
theorem rest_any {w : World} {c : Nat} {K : Nat → Prop} {bs : List UInt8} {i : Nat} (h : CurAt w c K bs i) :
    Calls Tryz.prog 276 #[pt c] w fun e w' => ∃ v, e = .returned v ∧ w'.ownsRow w.heap.size 5 1 v (bs.length - i) (Lib.byteCells (bs.drop i)) ∧ CurAt w' c K bs bs.length ∧ Fr (fun k => k = c) w w' := by
  have hsm := h.small
  have hle := h.le
  have H := Lib.hid h
  have hcut := Lib.hid (fun w' (C : CurAt w' c K bs i) => cut_any C i (bs.length - i) (by omega))
  have e1 : (i : Int) + ((bs.length - i : Nat) : Int) = (bs.length : Int) := by omega
  rw [e1] at hcut
  have e2 : (bs.drop i).take (bs.length - i) = bs.drop i := List.take_of_length_le (by rw [List.length_drop]; omega)
  rw [e2] at hcut
  clear h e1 e2
  go_enter Tryz.func276, Tryz.ntmps276
  go_upto_region 3 with fail
  have C1 := H.out.old (Fr.refl w).drew
  have HC := Lib.hid C1
  obtain ⟨sl, B, -⟩ := C1
  have F2 : Fr (fun _ => False) w w.drew := (Fr.refl w).drew
  have hcl := H.out.lt
  clear H
  go_region_held3 (fun w' => ∀ j, w'.cell? ⟨c, j, none⟩ = (#[sl, .int .i64 i] : Array Value)[j]?) (exact B.cell) (first
    | (go_at_call 111; refine (size_any HC.out).mono ?_; rintro e w' ⟨rfl, rfl⟩)
    | (go_at_call 70; refine (hcut.out _ HC.out).mono ?_; rintro e w' ⟨v, rfl, ho, F⟩; replace B := B.fr F (fun h => h); have C3 := HC.out.old F))
  have HO := Lib.hid ho
  have HC3 := Lib.hid C3
  have e1 := B.cell 1
  have f1 := B.frozen 1
  simp at e1
  have hv := Lib.hid (Vals.of_own ho)
  clear ho C3
  go_wp2_with fail
  refine (size_any HC3.out).mono ?_
  rintro e w4 ⟨rfl, rfl⟩
  go_wp2_with fail
  obtain ⟨C4, F4⟩ := HC3.out.set bs.length (Nat.le_refl _)
  have hne : ∀ k, v.ownBlock = some k → k ≠ c := fun k hk e => by
    have h1 := (hv.out.2 k hk).1
    have h2 := HC.out.lt
    omega
  go_ret
  exact ⟨v, rfl, own_le (ownsRow_fr HO.out F4 (fun k hk e => hne k hk e)) F2.size, C4, ((F2.trans F).mono (fun _ _ h => h.elim)).trans F4⟩
end Go.Proofs.YtacekpdjapgfcaaGreatDoor

namespace Go.Q
open Go Go.RowKit
theorem openS_err1 {T : Tag} {l : List UInt8} {x : Int} (h : readS l = .error x) : openS T l = .error x := by unfold openS; rw [h]
theorem openS_tag {T u : Tag} {l : List UInt8} {n k : Nat} (h : readS l = .ok (u, n, k)) (hu : u ≠ T) : openS T l = .error 4 := by unfold openS; rw [h]; exact if_pos hu
theorem openS_end {T : Tag} {l : List UInt8} {n k : Nat} (h : readS l = .ok (T, n, k)) (hn : l.length - k < n) : openS T l = .error 3 := by unfold openS; rw [h]; simp only; rw [if_neg (by simp), if_pos hn]
theorem openS_ok {T : Tag} {l : List UInt8} {n k : Nat} (h : readS l = .ok (T, n, k)) (hn : ¬ l.length - k < n) : openS T l = .ok ((l.drop k).take n, k + n) := by unfold openS; rw [h]; simp only; rw [if_neg (by simp), if_neg hn]
theorem openS_nz {T : Tag} {l : List UInt8} {x : Int} (h : openS T l = .error x) : x ≠ 0 := by
  unfold openS at h
  split at h
  · rename_i hr
    cases h
    exact Go.Proofs.YtacekpdjapgfcaaGreatDoor.readS_err hr
  · split at h
    · cases h; decide
    · split at h
      · cases h; decide
      · cases h
end Go.Q
namespace Go.Proofs.YtacekpdjapgfcaaGreatDoor
open Go Go.RowKit Go.Q
set_option linter.unusedSimpArgs false
def OpenOut1 (w w' : World) (c : Nat) (K : Nat → Prop) (bs : List UInt8) (p : Nat) (r : Except Int (List UInt8 × Nat)) (e : Ending) : Prop :=
  match r with
  | .ok (y, k) => ∃ g, e = .returned (.tuple #[pt g, .int .i64 0]) ∧ NewCur w w' g y ∧ CurAt w' c K bs (p + k)
  | .error x => e = .returned (.tuple #[.pointer none, .int .i64 x]) ∧ ∃ q, p ≤ q ∧ CurAt w' c K bs q
set_option maxRecDepth 20000 in
set_option maxHeartbeats 2000000 in
theorem open1_any {w : World} {c : Nat} {K : Nat → Prop} {bs : List UInt8} {p : Nat} (h : CurAt w c K bs p) (T : Tag) (bx bt : Nat) (B : Blk w bx 38 #[pt c]) (BT : Blk w bt 97 #[.int .i64 T.cls, .int .i64 T.num, .bool T.made]) (hbx : bx ≠ c) (hbt : bt ≠ c) :
    Calls Tryz.prog 125 #[pt bx, pt bt] w fun e w' => OpenOut1 w w' c K bs p (openS T (bs.drop p)) e ∧ Fr (fun k => k = c) w w' := by
  have hle := h.le
  have HR := Lib.hid (read_any h)
  have HB := Lib.hid B
  have HBT := Lib.hid BT
  have e0 := B.cell 0
  simp at e0
  clear h B BT
  go_enter Tryz.func125, Tryz.ntmps125
  go_wp2_with fail
  refine HR.out.mono ?_
  rintro e w1 ⟨⟨⟨tc, tn, tm⟩, n, x, rfl, ht⟩, C1, F1⟩
  rw [show frontV ⟨tc, tn, tm⟩ n = .agg #[.int .i64 tc, .int .i64 tn, .bool tm, .int .i64 n] from rfl]
  have HT := Lib.hid ht
  go_upto_region 2 with fail
  have F2 : Fr (fun _ => False) w1 (w1.alloc (.cells #[.int .i64 tc, .int .i64 tn, .bool tm, .int .i64 n] 188)) := (Fr.refl w1).alloc _
  have BD := Blk.new w1 188 #[.int .i64 tc, .int .i64 tn, .bool tm, .int .i64 n]
  have HC2 := Lib.hid (C1.old F2)
  have G2 := F1.trans (F2.mono (T := fun k => k = c) (fun _ _ h => h.elim))
  have HG2 := Lib.hid G2
  have SB := ((HB.out.fr F1 hbx).fr F2 (fun h => h)).cell 0
  have ST := ((HBT.out.fr F1 hbt).fr F2 (fun h => h)).cell
  have SD := BD.cell
  simp at SB
  obtain ⟨d, hd⟩ : ∃ d, d = w1.heap.size := ⟨_, rfl⟩
  rw [← hd] at BD SD ⊢
  clear hd C1 F1 F2 ht HR e0
  generalize (w1.alloc (.cells #[.int .i64 tc, .int .i64 tn, .bool tm, .int .i64 n] 188)) = w2 at *
  by_cases hx : x = 0
  · subst hx
    obtain ⟨u, hu⟩ : ∃ u : Tag, u = ⟨tc, tn, tm⟩ := ⟨_, rfl⟩
    have hok : ∃ k, readS (bs.drop p) = .ok (u, n, k) := by
      have ht := HT.out
      cases hr : readS (bs.drop p) with
      | error e => rw [hr] at ht; exact absurd ht.symm (readS_err hr)
      | ok vk => obtain ⟨v, m, k⟩ := vk; rw [hr] at ht; exact ⟨k, by rw [hu, ht.1, ht.2.1]⟩
    obtain ⟨k, hk⟩ := hok
    have hkl := (readS_le hk).1
    have hc := HC2.out
    rw [hk] at hc
    have HC := Lib.hid hc
    have HK := Lib.hid hk
    have HU := Lib.hid hu
    rw [List.length_drop] at hkl
    have bad : u ≠ T → OpenOut1 w w2 c K bs p (openS T (bs.drop p)) (.returned (.tuple #[.pointer none, .int .i64 4])) := fun hne => by
      rw [openS_tag HK.out hne]
      exact ⟨rfl, p + k, by omega, HC.out⟩
    have HBAD := Lib.hid bad
    clear hk hc hu bad HC2
    go_wp2_with fail
    rotate_left
    iterate 3
      refine bodyPost_ret (v := .tuple #[.pointer none, .int .i64 4]) (by simp [results, Tryz.results125, go_sem]) rfl ⟨HBAD.out fun e => ?_, HG2.out⟩
      have e2 := HU.out
      rw [e] at e2
      subst e2
      first | exact absurd rfl ‹¬ tm = _› | exact absurd rfl ‹¬ tn = _› | exact absurd rfl ‹¬ tc = _›
    have hT : u = T := by
      rw [HU.out]
      show (⟨tc, tn, tm⟩ : Tag) = ⟨T.cls, T.num, T.made⟩
      rw [‹tc = T.cls›, ‹tn = T.num›, ‹tm = T.made›]
    rw [hT] at HK
    clear hT HU HBAD
    by_cases hn : n ≤ bs.length - (p + k)
    · have HO := Lib.hid (openS_ok (T := T) HK.out (by rw [List.length_drop]; omega))
      have hS := sub_ok HC.out n hn
      rw [show (bs.drop (posR p (.ok (u, n, k)))).take n = ((bs.drop p).drop k).take n from by rw [List.drop_drop]; rfl] at hS
      refine hS.mono ?_
      rintro e w3 ⟨g, rfl, hN, C3, F3⟩
      have HN := Lib.hid hN
      have HC3 := Lib.hid C3
      have HF3 := Lib.hid (HG2.out.trans F3)
      clear hS hN C3 F3 G2
      go_wp2_with fail
      refine bodyPost_ret (v := .tuple #[pt g, .int .i64 0]) (by simp [results, Tryz.results125, go_sem]) rfl ⟨?_, HF3.out⟩
      rw [HO.out]
      exact ⟨g, rfl, HN.out.up HG2.out.size, by have := HC3.out; rwa [show posR p (.ok (u, n, k)) + n = p + (k + n) from Nat.add_assoc p k n] at this⟩
    · have HO := Lib.hid (openS_end (T := T) HK.out (by rw [List.length_drop]; omega))
      refine (sub_end HC.out n (by show bs.length - (p + k) < n; omega)).mono ?_
      rintro e w3 ⟨rfl, F3⟩
      have HC3 := Lib.hid (HC.out.old F3)
      have HF3 := Lib.hid (HG2.out.trans (F3.mono (fun _ _ h => h.elim)))
      clear F3 G2 HC
      go_wp2_with fail
      refine bodyPost_ret (v := .tuple #[.pointer none, .int .i64 3]) (by simp [results, Tryz.results125, go_sem]) rfl ⟨?_, HF3.out⟩
      rw [HO.out]
      exact ⟨rfl, p + k, by omega, HC3.out⟩
  · have hx1 : (x == 0) = false := beq_eq_false_iff_ne.2 hx
    have herr : readS (bs.drop p) = .error x := by
      have ht := HT.out
      cases hr : readS (bs.drop p) with
      | error e => rw [hr] at ht; rw [show x = e from ht]
      | ok vk => obtain ⟨v, m, k⟩ := vk; rw [hr] at ht; exact absurd ht.2.2 hx
    have hc := HC2.out
    rw [herr] at hc
    have HO := Lib.hid (openS_err1 (T := T) herr)
    have HC := Lib.hid hc
    clear herr hc
    go_wp2_with fail
    refine bodyPost_ret (v := .tuple #[.pointer none, .int .i64 x]) (by simp [results, Tryz.results125, go_sem]) rfl ⟨?_, HG2.out⟩
    rw [HO.out]
    exact ⟨rfl, p, Nat.le_refl _, HC.out⟩
def OpenOut (w w' : World) (c : Nat) (K : Nat → Prop) (bs : List UInt8) (p : Nat) (r : Except Int (List UInt8 × Nat)) (e : Ending) : Prop :=
  match r with
  | .ok (y, k) => ∃ g, e = .returned (.tuple #[pt g, .int .i64 0]) ∧ NewCur w w' g y ∧ CurAt w' c K bs (p + k)
  | .error x => e = .returned (.tuple #[.pointer none, .int .i64 x]) ∧ CurAt w' c K bs p
set_option maxRecDepth 20000 in
set_option maxHeartbeats 2000000 in
theorem open_any {w : World} {c : Nat} {K : Nat → Prop} {bs : List UInt8} {p : Nat} (h : CurAt w c K bs p) (T : Tag) :
    Calls Tryz.prog 79 #[pt c, .agg #[.int .i64 T.cls, .int .i64 T.num, .bool T.made]] w fun e w' => OpenOut w w' c K bs p (openS T (bs.drop p)) e ∧ Fr (fun k => k = c) w w' := by
  have hlc := h.lt
  obtain ⟨bx, hbx⟩ : ∃ bx, bx = w.heap.size := ⟨_, rfl⟩
  have B := (Blk.new w 38 #[pt c]).alloc (.cells #[.int .i64 T.cls, .int .i64 T.num, .bool T.made] 97)
  have BT := Blk.new (w.alloc (.cells #[pt c] 38)) 97 #[.int .i64 T.cls, .int .i64 T.num, .bool T.made]
  rw [World.size_alloc] at BT
  have F : Fr (fun _ => False) w ((w.alloc (.cells #[pt c] 38)).alloc (.cells #[.int .i64 T.cls, .int .i64 T.num, .bool T.made] 97)) := ((Fr.refl w).alloc _).alloc _
  have H := Lib.hid (h.old F)
  rw [← hbx] at B BT
  have hbc : bx ≠ c := by omega
  have htc : bx + 1 ≠ c := by omega
  have HBX := Lib.hid hbx
  have e0 := B.cell 0
  simp at e0
  clear h hbx hlc
  go_enter Tryz.func79, Tryz.ntmps79
  go_upto_region 1 with fail
  rw [← HBX.out]
  generalize ((w.alloc (.cells #[pt c] 38)).alloc (.cells #[.int .i64 T.cls, .int .i64 T.num, .bool T.made] 97)) = w0 at *
  have HF := Lib.hid F
  have HO1 := Lib.hid (open1_any H.out T bx (bx + 1) B BT hbc htc)
  clear F B BT HBX
  go_wp2_with (first | (go_at_call 124; go_in))
  refine (at_any H.out).mono ?_
  rintro e w1' ⟨rfl, rfl⟩
  go_wp2_with fail
  refine HO1.out.mono ?_
  rintro e w2 ⟨hout, F2⟩
  have HF2 := Lib.hid ((HF.out.mono (T := fun k => k = c) (fun _ _ h => h.elim)).trans F2)
  clear F2 HO1 H
  have hsz := HF.out.size
  cases hr : openS T (bs.drop p) with
  | error x =>
    rw [hr] at hout
    obtain ⟨rfl, q, hq, C2⟩ := hout
    have hx := openS_nz hr
    have hx1 : (x == 0) = false := beq_eq_false_iff_ne.2 hx
    have hx2 : (x != 0) = true := by simpa using hx
    have HB := Lib.hid (back_any C2 p hq)
    have HR := Lib.hid hr
    clear hr hx C2
    go_wp2_with fail
    refine HB.out.mono ?_
    rintro e w3 ⟨rfl, C3, F3⟩
    have HC3 := Lib.hid C3
    have HF3 := Lib.hid (HF2.out.trans F3)
    clear C3 F3 HB
    go_wp2_with fail
    refine bodyPost_ret (v := .tuple #[.pointer none, .int .i64 x]) (by simp [results, Tryz.results79, go_sem]) rfl ⟨?_, HF3.out⟩
    rw [HR.out]
    exact ⟨rfl, HC3.out⟩
  | ok yk =>
    obtain ⟨y, k⟩ := yk
    rw [hr] at hout
    obtain ⟨g, rfl, hN, C2⟩ := hout
    have HN := Lib.hid (hN.up hsz)
    have HC2 := Lib.hid C2
    have HR := Lib.hid hr
    clear hr hN C2
    go_wp2_with fail
    refine bodyPost_ret (v := .tuple #[pt g, .int .i64 0]) (by simp [results, Tryz.results79, go_sem]) rfl ⟨?_, HF2.out⟩
    rw [HR.out]
    exact ⟨g, rfl, HN.out, HC2.out⟩
theorem open_err {w : World} {c : Nat} {K : Nat → Prop} {bs : List UInt8} {p : Nat} (h : CurAt w c K bs p) (T : Tag) {x : Int} (ho : openS T (bs.drop p) = .error x) :
    Calls Tryz.prog 79 #[pt c, tagV T] w fun e w' => e = .returned (.tuple #[.pointer none, .int .i64 x]) ∧ CurAt w' c K bs p ∧ Fr (fun k => k = c) w w' :=
  (open_any h T).mono fun e w' ⟨h1, h2⟩ => by
    rw [ho] at h1
    exact ⟨h1.1, h1.2, h2⟩
theorem open_on {w : World} {c : Nat} {K : Nat → Prop} {bs : List UInt8} {p : Nat} (h : CurAt w c K bs p) (T : Tag) {y : List UInt8} {k : Nat} (ho : openS T (bs.drop p) = .ok (y, k)) :
    Calls Tryz.prog 79 #[pt c, tagV T] w fun e w' => (∃ g, e = .returned (.tuple #[pt g, .int .i64 0]) ∧ NewCur w w' g y ∧ CurAt w' c K bs (p + k)) ∧ Fr (fun k => k = c) w w' :=
  (open_any h T).mono fun e w' ⟨h1, h2⟩ => by
    rw [ho] at h1
    exact ⟨h1, h2⟩
end Go.Proofs.YtacekpdjapgfcaaGreatDoor

namespace Go.Proofs.YtacekpdjapgfcaaGreatDoor
open Go Go.RowKit Go.Q
set_option linter.unusedSimpArgs false
def rOpenOut (v : Value) (l : List UInt8) (p : Nat) (r : Except Int (List UInt8 × Nat)) (e : Ending) : Prop :=
  match r with
  | .error x => e = .returned (.tuple #[.slice none 0 0, .int .i64 p, .int .i64 x])
  | .ok (y, k) => ∃ A c, e = .returned (.tuple #[.slice A y.length c, .int .i64 ((p + k : Nat) : Int), .int .i64 0]) ∧ ∀ W, Bytes W v l → Bytes W (.slice A y.length c) y
end Go.Proofs.YtacekpdjapgfcaaGreatDoor
