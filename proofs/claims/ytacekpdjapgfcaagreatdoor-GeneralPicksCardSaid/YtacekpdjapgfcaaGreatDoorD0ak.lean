/-
  Merged by program: XR14S XNRow XNClone XGRow XGAll XNSort XNSheet.
-/
import Derived.Test.YtacekpdjapgfcaaGreatDoorD0aj
import Derived.Test.YtacekpdjapgfcaaGreatDoorD0af
import Derived.Lib.SliceRun
import Derived.Laws.OwnMore
import Derived.Test.YtacekpdjapgfcaaGreatDoorD0ai
import Derived.Deep.CutRange
import Derived.Deep.Cut
namespace Go.Proofs.YtacekpdjapgfcaaGreatDoor
open Go Go.RowKit Go.Q
set_option linter.unusedSimpArgs false
set_option maxRecDepth 20000 in
set_option maxHeartbeats 2000000 in
theorem r14Step_any (v : Value) (l : List Part) (w : World) (h : Attrs w v l) (hf : fewB l) :
    Calls Tryz.prog 131 #[v] w fun e w' => e = .returned (.bool (rdnS l).isSome) ∧ Fr (fun _ => False) w w' := by
  have H := Lib.hid h
  obtain ⟨a, cap, rfl, hc, hm, -⟩ := h
  rcases Classical.em (l.length = 0 ∨ 16 < l.length) with hl | hl
  · have hn : rdnS l = none := by unfold rdnS; rw [if_pos hl]
    have HN := Lib.hid hn
    clear hn
    rcases hl with hl | hl
    · have q1 : (l.length : Int) < 1 := by omega
      go_enter Tryz.func131, Tryz.ntmps131
      go_wp2_with fail
      go_ret
      exact ⟨by rw [HN.out]; rfl, Fr.refl _⟩
    · have q1 : ¬ (l.length : Int) < 1 := by omega
      have q3 : (16 : Int) < (l.length : Int) := by omega
      go_enter Tryz.func131, Tryz.ntmps131
      go_wp2_with fail
      go_ret
      exact ⟨by rw [HN.out]; rfl, Fr.refl _⟩
  · have hn : rdnS l = stepsS none l := by unfold rdnS; rw [if_neg hl]
    have HN := Lib.hid hn
    have q1 : ¬ (l.length : Int) < 1 := by omega
    have q3 : ¬ (16 : Int) < (l.length : Int) := by omega
    clear hn
    go_enter Tryz.func131, Tryz.ntmps131
    go_wp2_with fail
    go_loopg [3, 4] l.length (fun g u i wr => ∃ (j : Nat) (ws : List (List UInt8)), g = l.length - j ∧ j ≤ l.length ∧ i = .int .i64 j ∧ ws.length = j ∧ (∀ y, ws.getLast? = some y → Bytes wr u y) ∧ Fr (fun _ => False) w wr ∧ (stepsS none l = (stepsS ws.getLast? (l.drop j)).map (ws ++ ·)))
    case atStart => first | exact ⟨0, [], rfl, Nat.zero_le _, rfl, rfl, fun y e => by simp at e, Fr.refl _, by simp⟩ | exact ⟨0, [], rfl, Nat.zero_le _, rfl, fun y e => by simp at e, Fr.refl _, by simp⟩
    case round =>
      obtain ⟨j, ws, hg, hj, rfl, hws, hwl, F, hS⟩ := hrel
      have HG := Lib.hid hg
      have HS := Lib.hid hS
      have HF := Lib.hid F
      have HWS := Lib.hid hws
      have HWL := Lib.hid hwl
      clear hg hS hws hwl
      by_cases hjl : j < l.length
      · obtain ⟨a0, cap0, he, _, _, hx⟩ := H.out.old F
        simp only [Value.slice.injEq, true_and] at he
        obtain ⟨rfl, rfl⟩ := he
        obtain ⟨b, off, rfl, hy⟩ := hx (by omega)
        obtain ⟨p, hp⟩ : ∃ p, l[j]? = some p := ⟨_, List.getElem?_eq_getElem hjl⟩
        obtain ⟨x, y, e1, e2, hpx, hpy⟩ := hy j p hp
        have hsp := Lib.hid (stepsS_split l j p hp ws.getLast?)
        have hpb := hf p (List.mem_of_getElem? hp)
        have r1 : (0 : Int) ≤ (j : Int) := by omega
        have r2 : (j : Int) < (l.length : Int) := by omega
        obtain ⟨ax, cx, rfl, -⟩ := Ints.form hpx
        obtain ⟨ay, cy, rfl, -⟩ := Vals.form hpy
        have HW := Lib.hid (r14Whole_any _ _ p.o p.b wr hpx hpy hpb)
        have e1' : wr.cell? ⟨b, off + j * 2, none⟩ = some (.slice ax p.o.length cx) := by rw [Nat.mul_comm]; exact e1
        have e2' : wr.cell? ⟨b, off + j * 2 + 1, none⟩ = some (.slice ay p.b.length cy) := by rw [Nat.mul_comm]; exact e2
        clear hx hy hp hpx hpy F e1 e2
        go_wp2_with fail
        refine HW.out.mono ?_
        rintro e w2 ⟨hout, F2⟩
        have HF2 := Lib.hid (HF.out.trans F2)
        have HWL2 := Lib.hid (fun y h => (HWL.out y h).old F2)
        unfold rWholeOut at hout
        clear e1' e2' HF F2 HW HWL
        cases hq : attrS p.o p.b with
        | none =>
          rw [hq] at hout
          subst hout
          have hn : rdnS l = none := by rw [HN.out, HS.out, hsp.out, hq]; rfl
          have HNN := Lib.hid hn
          clear hn hq
          go_wp2_with fail
          go_ret
          exact ⟨by rw [HNN.out]; rfl, HF2.out⟩
        | some x =>
          rw [hq] at hout
          obtain ⟨v2, rfl, ho2⟩ := hout
          have hb2 := (Vals.of_own ho2).1
          have HB2 := Lib.hid hb2
          obtain ⟨a2, c2, rfl, -⟩ := hb2.form
          have hsp1 := hsp.out
          rw [hq] at hsp1
          have HSP := Lib.hid hsp1
          have hlen : (ws ++ [x]).length = j + 1 := by simp [HWS.out]
          have HLEN := Lib.hid hlen
          clear hb2 ho2 hsp hsp1 hq hlen
          by_cases hj0 : j = 0
          · subst hj0
            have hw0 : ws = [] := List.length_eq_zero_iff.1 HWS.out
            have hnx := steps_next HS.out HSP.out (by rw [hw0]; rfl)
            have HNX := Lib.hid hnx
            clear hnx hw0
            go_wp2_with fail
            go_roundg (l.length - (0 + 1))
            case measure => rw [HG.out]; omega
            case rel => exact ⟨0 + 1, ws ++ [x], rfl, by omega, by go_num, HLEN.out, fun y e => by rw [List.getLast?_concat] at e; cases e; exact HB2.out, HF2.out, HNX.out⟩
          · obtain ⟨k, rfl⟩ : ∃ k, j = k + 1 := ⟨j - 1, by omega⟩
            have hws2 := HWS.out
            obtain ⟨xk, hxk⟩ : ∃ x, ws[k]? = some x := ⟨_, List.getElem?_eq_getElem (by omega)⟩
            have hlast : ws.getLast? = some xk := by rw [List.getLast?_eq_getElem?, hws2]; exact hxk
            have hbk := HWL2.out xk hlast
            have hsp2 := HSP.out
            rw [hlast] at hsp2
            have t2 : (0 : Int) < ((k + 1 : Nat) : Int) := by omega
            have HCM := Lib.hid (r01Compare_any _ _ xk x w2 hbk HB2.out)
            obtain ⟨cm, hcm⟩ : ∃ cm, cm = cmpS xk x := ⟨_, rfl⟩
            have HCC := Lib.hid hcm
            rw [← hcm] at HCM
            have HLA := Lib.hid hlast
            clear hsp2 hxk hlast hcm hbk
            by_cases hge : 0 ≤ cm
            · have hn : rdnS l = none := by
                rw [HN.out, HS.out, HSP.out, HLA.out]
                simp [← HCC.out, hge]
              have HNN := Lib.hid hn
              clear hn
              go_wp2_with fail
              refine HCM.out.mono ?_
              rintro e w3 ⟨rfl, F3⟩
              go_wp2_with fail
              go_ret
              exact ⟨by rw [HNN.out]; rfl, HF2.out.trans F3⟩
            · have hcond : (match ws.getLast? with | some y => decide (0 ≤ cmpS y x) | none => false) = false := by
                rw [HLA.out]
                simp only [← HCC.out]
                exact decide_eq_false hge
              have HNX := Lib.hid (steps_next HS.out HSP.out hcond)
              clear hcond
              go_wp2_with fail
              refine HCM.out.mono ?_
              rintro e w3 ⟨rfl, F3⟩
              go_wp2_with fail
              go_roundg (l.length - (k + 1 + 1))
              case measure => rw [HG.out]; omega
              case rel => exact ⟨k + 1 + 1, ws ++ [x], rfl, by omega, by go_num, HLEN.out, fun y e => by rw [List.getLast?_concat] at e; cases e; exact HB2.out.old F3, HF2.out.trans F3, HNX.out⟩
      · have hd : l.drop j = [] := List.drop_eq_nil_of_le (by omega)
        have hres : rdnS l = some ws := by rw [HN.out, HS.out, hd]; simp [stepsS]
        have HRES := Lib.hid hres
        clear hd hres
        go_wp2_with fail
        go_ret
        exact ⟨by rw [HRES.out]; rfl, F⟩
set_option maxRecDepth 20000 in
set_option maxHeartbeats 2000000 in
theorem r14Right_any (v : Value) (n : List (List Part)) (w : World) (h : NameAt w v n) (hf : ∀ r ∈ n, fewB r) :
    Calls Tryz.prog 84 #[v] w fun e w' => e = .returned (.bool (nameOk n)) ∧ Fr (fun _ => False) w w' := by
  have H := Lib.hid h
  obtain ⟨a, cap, rfl, hc, hm, -⟩ := h
  have hcm : cap ≤ 9223372036854775807 := by unfold maxLen at hm; omega
  have hn : nameOk n = (decide (n.length ≤ 64) && n.all (fun r => (rdnS r).isSome)) := rfl
  have HN := Lib.hid hn
  clear hn
  go_enter Tryz.func84, Tryz.ntmps84
  go_wp2_with fail
  go_loopg [3] n.length (fun g i wr => ∃ j : Nat, g = n.length - j ∧ j ≤ n.length ∧ i = .int .i64 j ∧ (∀ r ∈ n.take j, (rdnS r).isSome = true) ∧ Fr (fun _ => False) w wr)
  case atStart => exact ⟨0, rfl, Nat.zero_le _, rfl, by simp, Fr.refl _⟩
  case round =>
    obtain ⟨j, hg, hj, rfl, he, F⟩ := hrel
    have HG := Lib.hid hg
    have HE := Lib.hid he
    have HF := Lib.hid F
    clear hg he
    by_cases hjl : j < n.length
    · obtain ⟨a0, cap0, he, _, _, hx⟩ := H.out.old F
      simp only [Value.slice.injEq, true_and] at he
      obtain ⟨rfl, rfl⟩ := he
      obtain ⟨b, off, rfl, hy⟩ := hx (by omega)
      obtain ⟨r, hr⟩ : ∃ r, n[j]? = some r := ⟨_, List.getElem?_eq_getElem hjl⟩
      obtain ⟨x, e1, hA⟩ := hy j r hr
      have r1 : (0 : Int) ≤ (j : Int) := by omega
      have r2 : (j : Int) < (n.length : Int) := by omega
      have HW := Lib.hid (r14Step_any x r wr hA (hf r (List.mem_of_getElem? hr)))
      have HR := Lib.hid hr
      clear hx hy hr hA F
      obtain ⟨o, ho⟩ : ∃ o, o = (rdnS r).isSome := ⟨_, rfl⟩
      have HO := Lib.hid ho
      rw [← ho] at HW
      clear ho
      go_wp2_with fail
      refine HW.out.mono ?_
      rintro e w2 ⟨rfl, F2⟩
      have G2 := HF.out.trans F2
      clear HF F2
      cases o with
      | false =>
        have hn : n.all (fun r => (rdnS r).isSome) = false := by
          rw [List.all_eq_false]
          exact ⟨r, List.mem_of_getElem? HR.out, by rw [← HO.out]; simp⟩
        have HNN := Lib.hid hn
        clear hn
        go_wp2_with fail
        go_ret
        exact ⟨by rw [HN.out, HNN.out, Bool.and_false]; rfl, G2⟩
      | true =>
        go_wp2_with fail
        go_roundg (n.length - (j + 1))
        case measure => rw [HG.out]; omega
        case rel =>
          refine ⟨j + 1, rfl, by omega, by go_num, fun s hs => ?_, G2⟩
          rw [List.take_add_one, HR.out] at hs
          rcases List.mem_append.1 hs with h | h
          · exact HE.out s h
          · simp at h
            rw [h, ← HO.out]
    · have hall : n.all (fun r => (rdnS r).isSome) = true := by
        rw [List.all_eq_true]
        have := HE.out
        rwa [List.take_of_length_le (by omega)] at this
      have HNN := Lib.hid hall
      clear hall
      by_cases h64 : n.length ≤ 64
      · have q1 : ¬ (64 : Int) < (n.length : Int) := by omega
        have q2 : (n.length : Int) ≤ 64 := by omega
        have HD := Lib.hid (decide_eq_true h64)
        clear h64
        go_wp2_with fail
        go_ret
        exact ⟨by rw [HN.out, HNN.out, HD.out]; rfl, F⟩
      · have q1 : (64 : Int) < (n.length : Int) := by omega
        have q2 : ¬ (n.length : Int) ≤ 64 := by omega
        have HD := Lib.hid (decide_eq_false h64)
        clear h64
        go_wp2_with fail
        go_ret
        exact ⟨by rw [HN.out, HNN.out, HD.out]; rfl, F⟩
end Go.Proofs.YtacekpdjapgfcaaGreatDoor

namespace Go.Q
open Go Go.RowKit
def ARow (t : TypeId) (w wr : World) (base : Nat) (v : Value) (l : List Part) : Prop :=
  ∃ cs : List Value, wr.ownsRow base t 2 v l.length cs ∧ ∀ (i : Nat) (p : Part), l[i]? = some p → ∃ x y, cs[2 * i]? = some x ∧ cs[2 * i + 1]? = some y ∧ Vals w x (intCells p.o) ∧ Bytes w y p.b
theorem ARow.at {t : TypeId} {w wr : World} {base : Nat} {v : Value} {l : List Part} (h : ARow t w wr base v l) (F : Fr (fun _ => False) w wr) : Attrs wr v l := by
  obtain ⟨cs, ⟨h1, h2⟩, h3⟩ := h
  rcases h2 with ⟨rfl, h0⟩ | ⟨g, cap, cur, rfl, hg, hh, hnc, hcm, hcs, htk⟩
  · exact ⟨none, 0, by rw [h0], by omega, by unfold maxLen; omega, fun h => by omega⟩
  · refine ⟨_, cap, rfl, hnc, hcm, fun _ => ⟨g, 0, rfl, fun i p hp => ?_⟩⟩
    obtain ⟨x, y, e1, e2, e3, e4⟩ := h3 i p hp
    have hi := (List.getElem?_eq_some_iff.1 hp).1
    have gc : ∀ k, k < l.length * 2 → wr.cell? ⟨g, 0 + k, none⟩ = cs[k]? := fun k hk => by
      have := congrArg (fun z : List Value => z[k]?) htk
      simp only [List.getElem?_take, if_pos hk, Array.getElem?_toList] at this
      rw [Nat.zero_add]
      simp only [World.cell?, hh]
      exact this
    refine ⟨x, y, ?_, ?_, e3.old F, e4.old F⟩
    · rw [gc (2 * i) (by omega)]; exact e1
    · rw [Nat.add_assoc, gc (2 * i + 1) (by omega)]; exact e2
theorem ARow.nil (t : TypeId) (w wr : World) (base : Nat) : ARow t w wr base (.slice none 0 0) [] := ⟨[], ⟨rfl, .inl ⟨rfl, rfl⟩⟩, fun i p hp => by simp at hp⟩
theorem ARow.shape {t : TypeId} {w wr : World} {base : Nat} {v : Value} {l : List Part} (h : ARow t w wr base v l) : ∃ a c, v = .slice a l.length c := by
  obtain ⟨us, h1, -⟩ := h
  obtain ⟨a, m, c, rfl, rfl⟩ := own_shape h1
  exact ⟨a, c, rfl⟩
theorem ARow.keep {t : TypeId} {w wr : World} {base : Nat} {v : Value} {l : List Part} (h : ARow t w wr base v l) : ∀ k, v.ownBlock = some k → base ≤ k ∧ k < wr.heap.size := fun k hk => by
  obtain ⟨us, h1, -⟩ := h
  exact h1.lt k hk
theorem ARow.fr {t : TypeId} {S : Nat → Prop} {w wr w' : World} {base : Nat} {v : Value} {l : List Part} (h : ARow t w wr base v l) (f : Fr S wr w') (hS : ∀ k, v.ownBlock = some k → ¬ S k) : ARow t w w' base v l := by
  obtain ⟨us, h1, h2⟩ := h
  exact ⟨us, Go.Proofs.YtacekpdjapgfcaaGreatDoor.ownsRow_fr h1 f hS, h2⟩
theorem ARow.kept {t : TypeId} {w wr : World} {base : Nat} {v : Value} {l : List Part} (h : ARow t w wr base v l) (F : Fr (fun _ => False) w wr) (K : Nat → Prop) (hK : ∀ k, K k → w.heap.size ≤ k ∧ k < base) : Kept (fun W => Attrs W v l) K wr := fun W f =>
  (h.fr f (fun k hk h1 => by have := (h.keep k hk).1; have := (hK k h1).2; omega)).at (F.trans' f (fun i hi h1 => by have := (hK i h1).1; omega))
theorem ARow.add {P : Program} {t s : TypeId} (hu0 : P.underlying s = some (.slice t)) (hinf : Info P t (.agg #[.slice none 0 0, .slice none 0 0]) 2 48) {w wr wa : World} {base : Nat} {v x y : Value} {l : List Part} (h : ARow t w wr base v l) (hb : base ≤ wr.heap.size) (F1 : Fr (fun _ => False) wr wa) (g : Nat) (BX : Blk wa g t #[x, y]) (p : Part) (hx : Ints w x p.o) (hy : Bytes w y p.b) (hn : l.length ≤ 109951162777) :
    ∃ a c w', (Builtin.append_ #[s, s] s #[v, .slice (some ⟨g, 0, none⟩) 1 1]).run P wa = .ok (.slice a (l.length + 1) c) w' ∧ ARow t w w' base (.slice a (l.length + 1) c) (l ++ [p]) ∧ Fr (fun k => v.ownBlock = some k) wr w' := by
  obtain ⟨cs, h1, h2⟩ := h
  have hcl : cs.length = l.length * 2 := h1.1
  obtain ⟨ax, cx, rfl, -⟩ := Ints.form hx
  obtain ⟨ay, cy, rfl, -⟩ := Vals.form hy
  obtain ⟨a, c, w', hrun, h4, F2, h5⟩ := add_gen hu0 hinf rfl (by decide) (by decide) h1 hb F1 g [.slice ax p.o.length cx, .slice ay p.b.length cy] rfl BX (by intro u hu; simp at hu; rcases hu with rfl | rfl <;> rfl) hn
  refine ⟨a, c, w', hrun, ⟨cs ++ [.slice ax p.o.length cx, .slice ay p.b.length cy], by rw [List.length_append]; exact h4, fun i q hq => ?_⟩, F2⟩
  rcases Nat.lt_or_ge i l.length with hi | hi
  · rw [List.getElem?_append_left hi] at hq
    obtain ⟨x, y, e1, e2, e3⟩ := h2 i q hq
    exact ⟨x, y, by rw [List.getElem?_append_left (by omega)]; exact e1, by rw [List.getElem?_append_left (by omega)]; exact e2, e3⟩
  · obtain rfl : i = l.length := by
      have := (List.getElem?_eq_some_iff.1 hq).1
      simp at this
      omega
    rw [List.getElem?_append_right (Nat.le_refl _)] at hq
    simp at hq
    subst hq
    refine ⟨_, _, ?_, ?_, hx, hy⟩
    · rw [List.getElem?_append_right (by omega), show 2 * l.length - cs.length = 0 from by omega]; rfl
    · rw [List.getElem?_append_right (by omega), show 2 * l.length + 1 - cs.length = 1 from by omega]; rfl
def NRow (t : TypeId) (w : World) (base : Nat) (v : Value) (n : List (List Part)) : Prop :=
  ∃ us : List Value, w.ownsRow base t 1 v n.length us ∧ us.length = n.length ∧ ∀ (i : Nat) (u : Value) (r : List Part), us[i]? = some u → n[i]? = some r → Kept (fun W => Attrs W u r) (fun k => v.ownBlock = some k) w
theorem NRow.at {t : TypeId} {w : World} {base : Nat} {v : Value} {n : List (List Part)} (h : NRow t w base v n) : NameAt w v n := by
  obtain ⟨us, h1, h2, h3⟩ := h
  obtain ⟨a, cap, he, hc, hm, hx⟩ := (Vals.of_own h1).1
  rw [h2] at he hc hx
  refine ⟨a, cap, he, hc, hm, fun h0 => ?_⟩
  obtain ⟨b, o, rfl, hy⟩ := hx h0
  refine ⟨b, o, rfl, fun i r hr => ?_⟩
  have hi : i < us.length := by rw [h2]; exact (List.getElem?_eq_some_iff.1 hr).1
  exact ⟨us[i], hy i _ (List.getElem?_eq_getElem hi), (h3 i _ r (List.getElem?_eq_getElem hi) hr).now⟩
theorem NRow.old {t : TypeId} {w w' : World} {base : Nat} {v : Value} {n : List (List Part)} (h : NRow t w base v n) (f : Fr (fun _ => False) w w') : NRow t w' base v n := by
  obtain ⟨us, h1, h2, h3⟩ := h
  exact ⟨us, Go.Proofs.YtacekpdjapgfcaaGreatDoor.ownsRow_fr h1 f (fun _ _ h => h), h2, fun i u r hu hr => (h3 i u r hu hr).old f⟩
theorem NRow.keep {t : TypeId} {w : World} {base : Nat} {v : Value} {n : List (List Part)} (h : NRow t w base v n) : ∀ k, v.ownBlock = some k → base ≤ k ∧ k < w.heap.size := by
  obtain ⟨us, h1, -⟩ := h
  exact (Vals.of_own h1).2
theorem NRow.shape {t : TypeId} {w : World} {base : Nat} {v : Value} {n : List (List Part)} (h : NRow t w base v n) : ∃ a c, v = .slice a n.length c := by
  obtain ⟨us, h1, -⟩ := h
  obtain ⟨a, m, c, rfl, rfl⟩ := own_shape h1
  exact ⟨a, c, rfl⟩
theorem NRow.nil (t : TypeId) (w : World) (base : Nat) : NRow t w base (.slice none 0 0) [] := ⟨[], ⟨rfl, .inl ⟨rfl, rfl⟩⟩, rfl, fun i u r h => by simp at h⟩
theorem NRow.add {P : Program} {t s : TypeId} (hu0 : P.underlying s = some (.slice t)) (hinf : Info P t (.slice none 0 0) 1 24) {w wa : World} {base : Nat} {v : Value} {n : List (List Part)} (h : NRow t w base v n) (hb : base ≤ w.heap.size) (F1 : Fr (fun _ => False) w wa) (g : Nat) (u : Value) (r : List Part) (BX : Blk wa g t #[u]) (hu1 : u.oneCell' = true) (hu : Kept (fun W => Attrs W u r) (fun k => v.ownBlock = some k) w) (hn : n.length ≤ 109951162777) :
    ∃ a c w', (Builtin.append_ #[s, s] s #[v, .slice (some ⟨g, 0, none⟩) 1 1]).run P wa = .ok (.slice a (n.length + 1) c) w' ∧ NRow t w' base (.slice a (n.length + 1) c) (n ++ [r]) ∧ Fr (fun k => v.ownBlock = some k) w w' := by
  obtain ⟨us, h1, h2, h3⟩ := h
  obtain ⟨a, c, w', hrun, h4, F2, h5⟩ := add_gen hu0 hinf rfl (by decide) (by decide) h1 hb F1 g [u] rfl BX (by simpa using hu1) hn
  refine ⟨a, c, w', hrun, ⟨us ++ [u], ?_, by simp [h2], fun i x s hx hs => ?_⟩, F2⟩
  · rw [List.length_append]
    exact h4
  · rcases Nat.lt_or_ge i us.length with hi | hi
    · rw [List.getElem?_append_left hi] at hx
      rw [List.getElem?_append_left (by omega)] at hs
      exact (h3 i x s hx hs).step F2 (fun _ _ h => h) h5
    · obtain rfl : i = us.length := by
        have := (List.getElem?_eq_some_iff.1 hx).1
        simp at this
        omega
      rw [List.getElem?_append_right (Nat.le_refl _)] at hx
      rw [List.getElem?_append_right (by omega)] at hs
      simp at hx
      simp [h2] at hs
      subst hx; subst hs
      exact hu.step F2 (fun _ _ h => h) h5
end Go.Q

namespace Go.Q
open Go Go.RowKit
section
variable {P : Program}
theorem append_none {w : World} {base n : Nat} {t e : TypeId} {v : Value} {xs : List Value} {z : Value} {size bytes : Nat} (hu : P.underlying t = some (.slice e)) (hinf : Info P e z size bytes) (hown : w.ownsRow base e size v n xs) (c : Nat) :
    (Builtin.append_ #[t, t] t #[v, .slice none 0 c]).run P w = .ok v w := by
  obtain ⟨i0, hi0, hz0, hz1, hz2⟩ := info_parts hinf
  rcases hown.2 with ⟨rfl, rfl⟩ | ⟨g, cap, cur, rfl, _, _, hnc, _⟩
  · simp [Builtin.append_, run_underlying hu, sizeOf, typeInfo, hi0, Builtin.lenOf, Builtin.firstCells]
  · simp [Builtin.append_, run_underlying hu, sizeOf, typeInfo, hi0, Builtin.lenOf, Builtin.firstCells, hnc, storeCells]
theorem append_vals {w : World} {base n : Nat} {t e : TypeId} {v y : Value} {xs news : List Value} {z : Value} {bytes : Nat} (hu : P.underlying t = some (.slice e)) (hinf : Info P e z 1 bytes) (hzs : z.cells.size = 1) (hby : bytes ≤ 64)
    (hown : w.ownsRow base e 1 v n xs) (hb : base ≤ w.heap.size) (hy : Vals w y news) (h1 : ∀ u ∈ news, u.oneCell' = true) (hsz : n + news.length ≤ 1099511627776) :
    ∃ a' c' w', (Builtin.append_ #[t, t] t #[v, y]).run P w = .ok (.slice a' (n + news.length) c') w' ∧ w'.ownsRow base e 1 (.slice a' (n + news.length) c') (n + news.length) (xs ++ news) ∧ Fr (fun k => v.ownBlock = some k) w w' ∧ (∀ k, (Value.slice a' (n + news.length) c').ownBlock = some k → v.ownBlock = some k ∨ w.heap.size ≤ k) := by
  obtain ⟨a, cap, rfl, hc, hm, hx⟩ := hy
  cases a with
  | none =>
    have h0 : news = [] := by
      cases news with
      | nil => rfl
      | cons u s => obtain ⟨b, o, e, -⟩ := hx (by simp); cases e
    subst h0
    obtain ⟨av, m, cv, rfl, rfl⟩ := own_shape hown
    exact ⟨av, cv, w, append_none hu hinf hown cap, by simpa using hown, Fr.refl _, fun k hk => .inl hk⟩
  | some ad =>
    refine append_gen hu hinf hzs (by decide) hby hown hb ad news.length cap news (by omega) (fun j u hj => ?_) h1 hsz
    have hj2 := (List.getElem?_eq_some_iff.1 hj).1
    obtain ⟨b, o, e, hy⟩ := hx (by omega)
    simp only [Option.some.injEq] at e
    subst e
    rw [show (⟨b, o, none⟩ : Addr).add j = ⟨b, o + j, none⟩ from by unfold Addr.add; split <;> simp_all]
    exact hy j u hj
end
end Go.Q
namespace Go.Proofs.YtacekpdjapgfcaaGreatDoor
open Go Go.RowKit Go.Q
set_option linter.unusedSimpArgs false
set_option maxRecDepth 20000 in
set_option maxHeartbeats 1000000 in
theorem cloneInt_any (v : Value) (o : List Int) (w : World) (h : Ints w v o) (hl : o.length ≤ 100000000000) :
    Calls Tryz.prog 87 #[v] w fun e w' => (∃ u, e = .returned u ∧ w'.ownsRow w.heap.size 3 1 u o.length (intCells o)) ∧ Fr (fun _ => False) w w' := by
  obtain ⟨a, cap, rfl, -⟩ := Ints.form h
  have qT : ∀ (w : World) (a : Option Addr) (n c n' c' : Nat), (binOp .eql 105 (.slice a n c) (.slice none n' c')).run Tryz.prog w = .ok (.bool a.isNone) w := fun w a n c n' c' => Lib.run_eql_slice_nil w _ _ a n c n' c' Tryz.underlying105
  cases a with
  | none =>
    have h0 : o = [] := by
      obtain ⟨a0, c0, he, _, _, hx⟩ := Ints.form h
      cases o with
      | nil => rfl
      | cons u s =>
        obtain ⟨b, o, e, -⟩ := hx (by simp)
        simp only [Value.slice.injEq] at he
        rw [e] at he
        cases he.1
    subst h0
    clear h
    go_enter Tryz.func87, Tryz.ntmps87
    go_wp2_with fail
    go_ret
    exact ⟨⟨_, rfl, rfl, .inl ⟨rfl, rfl⟩⟩, Fr.refl _⟩
  | some ad =>
    have B0 := Blk.new w 3 #[]
    have F0 : Fr (fun _ => False) w (w.alloc (.cells #[] 3)) := (Fr.refl w).alloc _
    have hl2 : (intCells o).length = o.length := intCells_len o
    obtain ⟨a', c', w', hrun, hown, F1, -⟩ := append_vals Tryz.underlying105 info3 rfl (by decide) (own_block B0 0 (Nat.le_refl _) (Nat.zero_le _) w.heap.size (Nat.le_refl _)) F0.size (h.old F0) (intCells_one o) (by rw [hl2]; omega)
    rw [hl2, Nat.zero_add] at hrun hown
    have HF := Lib.hid (F0.trans' F1 (fun i hi e => by simp [Value.ownBlock] at e; omega))
    have HRUN := Lib.hid hrun
    have HOW := Lib.hid hown
    clear hrun hown F1 B0 F0 h hl2
    go_enter Tryz.func87, Tryz.ntmps87
    go_wp2_with (at_builtin; refine wpList_append_run (by rfl) (.tmp 5) (.tmp 6) 105 (by rfl) _ w' (by exact HRUN.out) ?_)
    go_ret
    exact ⟨⟨_, rfl, HOW.out⟩, HF.out⟩
set_option maxRecDepth 20000 in
set_option maxHeartbeats 1000000 in
theorem cloneByte_any (v : Value) (o : List UInt8) (w : World) (h : Bytes w v o) (hl : o.length ≤ 100000000000) :
    Calls Tryz.prog 88 #[v] w fun e w' => (∃ u, e = .returned u ∧ w'.ownsRow w.heap.size 5 1 u o.length (Lib.byteCells o)) ∧ Fr (fun _ => False) w w' := by
  obtain ⟨a, cap, rfl, -⟩ := Vals.form h
  have qT : ∀ (w : World) (a : Option Addr) (n c n' c' : Nat), (binOp .eql 23 (.slice a n c) (.slice none n' c')).run Tryz.prog w = .ok (.bool a.isNone) w := fun w a n c n' c' => Lib.run_eql_slice_nil w _ _ a n c n' c' Tryz.underlying23
  cases a with
  | none =>
    have h0 : o = [] := by
      obtain ⟨a0, c0, he, _, _, hx⟩ := Vals.form h
      cases o with
      | nil => rfl
      | cons u s =>
        obtain ⟨b, o, e, -⟩ := hx (by simp)
        simp only [Value.slice.injEq] at he
        rw [e] at he
        cases he.1
    subst h0
    clear h
    go_enter Tryz.func88, Tryz.ntmps88
    go_wp2_with fail
    go_ret
    exact ⟨⟨_, rfl, rfl, .inl ⟨rfl, rfl⟩⟩, Fr.refl _⟩
  | some ad =>
    have B0 := Blk.new w 5 #[]
    have F0 : Fr (fun _ => False) w (w.alloc (.cells #[] 5)) := (Fr.refl w).alloc _
    have hl2 : (Lib.byteCells o).length = o.length := byteCells_len o
    obtain ⟨a', c', w', hrun, hown, F1, -⟩ := append_vals Tryz.underlying23 info5 rfl (by decide) (own_block B0 0 (Nat.le_refl _) (Nat.zero_le _) w.heap.size (Nat.le_refl _)) F0.size (h.old F0) (byteCells_one o) (by rw [hl2]; omega)
    rw [hl2, Nat.zero_add] at hrun hown
    have HF := Lib.hid (F0.trans' F1 (fun i hi e => by simp [Value.ownBlock] at e; omega))
    have HRUN := Lib.hid hrun
    have HOW := Lib.hid hown
    clear hrun hown F1 B0 F0 h hl2
    go_enter Tryz.func88, Tryz.ntmps88
    go_wp2_with (at_builtin; refine wpList_append_run (by rfl) (.tmp 5) (.tmp 6) 23 (by rfl) _ w' (by exact HRUN.out) ?_)
    go_ret
    exact ⟨⟨_, rfl, HOW.out⟩, HF.out⟩
end Go.Proofs.YtacekpdjapgfcaaGreatDoor

namespace Go.Q
open Go Go.RowKit
def LAt {α : Type} (sz : Nat) (R : World → List Value → α → Prop) (w : World) (v : Value) (l : List α) : Prop :=
  ∃ a cap, v = .slice a l.length cap ∧ l.length ≤ cap ∧ cap ≤ maxLen ∧ (0 < l.length → ∃ b o, a = some ⟨b, o, none⟩ ∧ ∀ i x, l[i]? = some x → ∃ cs, cs.length = sz ∧ (∀ j u, cs[j]? = some u → w.cell? ⟨b, o + sz * i + j, none⟩ = some u) ∧ R w cs x)
def GRow {α : Type} (sz : Nat) (R : World → List Value → α → Prop) (K : Nat → Prop) (t : TypeId) (w : World) (base : Nat) (v : Value) (l : List α) : Prop :=
  ∃ cs : List Value, w.ownsRow base t sz v l.length cs ∧ ∀ i x, l[i]? = some x → ∃ us, us.length = sz ∧ (∀ j u, us[j]? = some u → cs[sz * i + j]? = some u) ∧ Kept (fun W => R W us x) (fun k => v.ownBlock = some k ∨ K k) w
section
variable {α : Type} {sz : Nat} {R : World → List Value → α → Prop} {K : Nat → Prop} {t : TypeId} {w : World} {base : Nat} {v : Value} {l : List α}
theorem LAt.old (hR : ∀ w w' cs x, R w cs x → Fr (fun _ => False) w w' → R w' cs x) {w' : World} (h : LAt sz R w v l) (f : Fr (fun _ => False) w w') : LAt sz R w' v l := by
  obtain ⟨a, cap, rfl, h1, h2, h3⟩ := h
  refine ⟨a, cap, rfl, h1, h2, fun h0 => ?_⟩
  obtain ⟨b, o, rfl, hy⟩ := h3 h0
  refine ⟨b, o, rfl, fun i p hp => ?_⟩
  obtain ⟨cs, e1, e2, e3⟩ := hy i p hp
  exact ⟨cs, e1, fun j u hu => f.cell (e2 j u hu) (fun h => h), hR _ _ _ _ e3 f⟩
theorem GRow.nil (sz : Nat) (R : World → List Value → α → Prop) (K : Nat → Prop) (t : TypeId) (w : World) (base : Nat) : GRow sz R K t w base (.slice none 0 0) [] := ⟨[], ⟨by simp, .inl ⟨rfl, rfl⟩⟩, fun i p hp => by simp at hp⟩
theorem GRow.keep (h : GRow sz R K t w base v l) : ∀ k, v.ownBlock = some k → base ≤ k ∧ k < w.heap.size := fun k hk => by
  obtain ⟨us, h1, -⟩ := h
  exact h1.lt k hk
theorem GRow.shape (h : GRow sz R K t w base v l) : ∃ a c, v = .slice a l.length c := by
  obtain ⟨us, h1, -⟩ := h
  obtain ⟨a, m, c, rfl, rfl⟩ := own_shape h1
  exact ⟨a, c, rfl⟩
theorem GRow.at (h : GRow sz R K t w base v l) (_hs : 0 < sz) : LAt sz R w v l := by
  obtain ⟨cs, ⟨h1, h2⟩, h3⟩ := h
  rcases h2 with ⟨rfl, h0⟩ | ⟨g, cap, cur, rfl, hg, hh, hnc, hcm, hcs, htk⟩
  · exact ⟨none, 0, by rw [h0], by omega, by unfold maxLen; omega, fun h => by omega⟩
  · refine ⟨_, cap, rfl, hnc, hcm, fun _ => ⟨g, 0, rfl, fun i p hp => ?_⟩⟩
    obtain ⟨us, e1, e2, e3⟩ := h3 i p hp
    refine ⟨us, e1, fun j u hu => ?_, e3.now⟩
    have hi := (List.getElem?_eq_some_iff.1 hp).1
    have hc := e2 j u hu
    have hj := (List.getElem?_eq_some_iff.1 hc).1
    have := congrArg (fun z : List Value => z[sz * i + j]?) htk
    simp only [List.getElem?_take, if_pos (show sz * i + j < l.length * sz by omega), Array.getElem?_toList] at this
    rw [Nat.zero_add]
    simp only [World.cell?, hh]
    exact this.trans hc
theorem GRow.fr {S : Nat → Prop} {w' : World} (h : GRow sz R K t w base v l) (f : Fr S w w') (hS : ∀ k, k < w.heap.size → S k → K k) (hv : ∀ k, v.ownBlock = some k → ¬ S k) : GRow sz R K t w' base v l := by
  obtain ⟨cs, h1, h2⟩ := h
  refine ⟨cs, Go.Proofs.YtacekpdjapgfcaaGreatDoor.ownsRow_fr h1 f hv, fun i p hp => ?_⟩
  obtain ⟨us, e1, e2, e3⟩ := h2 i p hp
  exact ⟨us, e1, e2, e3.step f (fun k hk hs => .inr (hS k hk hs)) (fun k hk => .inl hk)⟩
theorem GRow.old {w' : World} (h : GRow sz R K t w base v l) (f : Fr (fun _ => False) w w') : GRow sz R K t w' base v l := h.fr f (fun _ _ h => h.elim) (fun _ _ h => h)
theorem GRow.kept (h : GRow sz R K t w base v l) (hs : 0 < sz) (K' : Nat → Prop) (hK : ∀ k, K' k → K k ∧ k < base) : Kept (fun W => LAt sz R W v l) K' w := fun W f =>
  (h.fr f (fun k _ hk => (hK k hk).1) (fun k hk hs => by have := (h.keep k hk).1; have := (hK k hs).2; omega)).at hs
theorem GRow.add {P : Program} {s : TypeId} {z : Value} {bytes : Nat} (hu0 : P.underlying s = some (.slice t)) (hinf : Info P t z sz bytes) (hzs : z.cells.size = sz) (hs0 : 0 < sz) (hby : bytes ≤ 64) {wa : World} (h : GRow sz R K t w base v l) (hb : base ≤ w.heap.size) (F1 : Fr (fun _ => False) w wa) (g : Nat) (us : List Value) (hus : us.length = sz) (BX : Blk wa g t us.toArray) (h1 : ∀ u ∈ us, u.oneCell' = true) (x : α) (hk : Kept (fun W => R W us x) (fun k => v.ownBlock = some k ∨ K k) w) (hn : l.length ≤ 109951162777) :
    ∃ a c w', (Builtin.append_ #[s, s] s #[v, .slice (some ⟨g, 0, none⟩) 1 1]).run P wa = .ok (.slice a (l.length + 1) c) w' ∧ GRow sz R K t w' base (.slice a (l.length + 1) c) (l ++ [x]) ∧ Fr (fun k => v.ownBlock = some k) w w' ∧ (∀ k, (Value.slice a (l.length + 1) c).ownBlock = some k → v.ownBlock = some k ∨ w.heap.size ≤ k) := by
  obtain ⟨cs, g1, g2⟩ := h
  have hcl : cs.length = l.length * sz := g1.1
  obtain ⟨a, c, w', hrun, h4, F2, h5⟩ := add_gen hu0 hinf hzs hs0 hby g1 hb F1 g us hus BX h1 hn
  have hst : ∀ (us : List Value) (y : α), Kept (fun W => R W us y) (fun k => v.ownBlock = some k ∨ K k) w → Kept (fun W => R W us y) (fun k => (Value.slice a (l.length + 1) c).ownBlock = some k ∨ K k) w' := fun us y hq =>
    hq.step F2 (fun _ _ h => .inl h) (fun k hk => by
      rcases hk with h | h
      · rcases h5 k h with h | h
        · exact .inl (.inl h)
        · exact .inr h
      · exact .inl (.inr h))
  refine ⟨a, c, w', hrun, ⟨cs ++ us, by rw [List.length_append]; exact h4, fun i y hy => ?_⟩, F2, h5⟩
  rcases Nat.lt_or_ge i l.length with hi | hi
  · rw [List.getElem?_append_left hi] at hy
    obtain ⟨us', e1, e2, e3⟩ := g2 i y hy
    refine ⟨us', e1, fun j u hu => ?_, hst _ _ e3⟩
    have := e2 j u hu
    rw [List.getElem?_append_left (List.getElem?_eq_some_iff.1 this).1]
    exact this
  · obtain rfl : i = l.length := by
      have := (List.getElem?_eq_some_iff.1 hy).1
      simp at this
      omega
    rw [List.getElem?_append_right (Nat.le_refl _)] at hy
    simp at hy
    subst hy
    refine ⟨us, hus, fun j u hu => ?_, hst _ _ hk⟩
    rw [Nat.mul_comm, List.getElem?_append_right (by rw [hcl]; exact Nat.le_add_right _ _), hcl, Nat.add_sub_cancel_left]
    exact hu
end
def RPart (W : World) (cs : List Value) (p : Part) : Prop := ∃ x y, cs = [x, y] ∧ Ints W x p.o ∧ Bytes W y p.b
def RStep (W : World) (cs : List Value) (r : List Part) : Prop := ∃ u, cs = [u] ∧ Attrs W u r
theorem LAt.attrs {w : World} {v : Value} {l : List Part} (h : LAt 2 RPart w v l) : Attrs w v l := by
  obtain ⟨a, cap, rfl, h1, h2, h3⟩ := h
  refine ⟨a, cap, rfl, h1, h2, fun h0 => ?_⟩
  obtain ⟨b, o, rfl, hy⟩ := h3 h0
  refine ⟨b, o, rfl, fun i p hp => ?_⟩
  obtain ⟨cs, -, e2, x, y, rfl, g1, g2⟩ := hy i p hp
  exact ⟨x, y, e2 0 x rfl, e2 1 y rfl, g1, g2⟩
theorem LAt.name {w : World} {v : Value} {n : List (List Part)} (h : LAt 1 RStep w v n) : NameAt w v n := by
  obtain ⟨a, cap, rfl, h1, h2, h3⟩ := h
  refine ⟨a, cap, rfl, h1, h2, fun h0 => ?_⟩
  obtain ⟨b, o, rfl, hy⟩ := h3 h0
  refine ⟨b, o, rfl, fun i r hr => ?_⟩
  obtain ⟨cs, -, e2, u, rfl, g1⟩ := hy i r hr
  exact ⟨u, by have := e2 0 u rfl; rw [Nat.one_mul] at this; exact this, g1⟩
theorem Kept.imp {A B : World → Prop} {K : Nat → Prop} {w : World} (h : Kept A K w) (f : ∀ W, A W → B W) : Kept B K w := fun W g => f W (h W g)
theorem Kept.both {A B : World → Prop} {K : Nat → Prop} {w : World} (h : Kept A K w) (g : Kept B K w) : Kept (fun W => A W ∧ B W) K w := fun W f => ⟨h W f, g W f⟩
end Go.Q

namespace Go.Q
open Go Go.RowKit
theorem step_of {u : Value} {r : List Part} {K : Nat → Prop} {w : World} (h : Kept (fun W => Attrs W u r) K w) : Kept (fun W => RStep W [u] r) K w := fun W f => ⟨u, rfl, h W f⟩
end Go.Q

namespace Go.Q
open Go Go.RowKit
theorem cmpS_swap : ∀ a b : List UInt8, cmpS a b = - cmpS b a
  | [], [] => rfl
  | [], _ :: _ => rfl
  | _ :: _, [] => rfl
  | x :: a, y :: b => by
    simp only [cmpS]
    by_cases h : x = y
    · rw [if_pos h, if_pos h.symm]
      exact cmpS_swap a b
    · rw [if_neg h, if_neg (fun e : y = x => h e.symm)]
      have hne : x.toNat ≠ y.toNat := fun e => h (UInt8.toNat_inj.1 e)
      by_cases h1 : x.toNat < y.toNat
      · rw [if_pos h1, if_neg (by omega)]
      · rw [if_neg h1, if_pos (by omega)]
        rfl
def Upward (ls : List (List UInt8)) : Prop := ∀ (j : Nat) (x y : List UInt8), ls[j]? = some x → ls[j + 1]? = some y → 0 ≤ cmpS y x
theorem steps_in {p : Part} {t : List Part} {last : Option (List UInt8)} {ws : List (List UInt8)} (h : stepsS last (p :: t) = some ws) : ∃ x ws', attrS p.o p.b = some x ∧ stepsS (some x) t = some ws' ∧ ws = x :: ws' ∧ ∀ y, last = some y → cmpS y x < 0 := by
  simp only [stepsS] at h
  cases hx : attrS p.o p.b with
  | none => rw [hx] at h; cases h
  | some x =>
    rw [hx] at h
    simp only at h
    have key : (stepsS (some x) t).map (x :: ·) = some ws ∧ ∀ y, last = some y → cmpS y x < 0 := by
      cases last with
      | none =>
        rw [if_neg (by simp)] at h
        exact ⟨h, fun y e => by cases e⟩
      | some y =>
        by_cases hlt : 0 ≤ cmpS y x
        · rw [if_pos (by simpa using hlt)] at h; cases h
        · rw [if_neg (by simpa using hlt)] at h
          exact ⟨h, fun z e => by cases e; omega⟩
    obtain ⟨h, hlt⟩ := key
    cases hs : stepsS (some x) t with
    | none => rw [hs] at h; cases h
    | some ws' =>
      rw [hs] at h
      simp only [Option.map_some, Option.some.injEq] at h
      exact ⟨x, ws', rfl, hs, h.symm, hlt⟩
theorem steps_up : ∀ (l : List Part) (last : Option (List UInt8)) (ws : List (List UInt8)), stepsS last l = some ws → (∀ y x, last = some y → ws[0]? = some x → cmpS y x < 0) ∧ Upward ws ∧ ws.length = l.length
  | [], last, ws, h => by
    simp only [stepsS, Option.some.injEq] at h
    subst h
    exact ⟨fun _ _ _ h => by simp at h, fun _ _ _ h => by simp at h, rfl⟩
  | p :: t, last, ws, h => by
    obtain ⟨x, ws', -, hs, rfl, hlt⟩ := steps_in h
    obtain ⟨h1, h2, h3⟩ := steps_up t (some x) ws' hs
    refine ⟨fun y z hl hz => ?_, fun j a b ha hb => ?_, by rw [List.length_cons, List.length_cons, h3]⟩
    · simp only [List.getElem?_cons_zero, Option.some.injEq] at hz
      subst hz
      exact hlt y hl
    · cases j with
      | zero =>
        simp only [List.getElem?_cons_zero, Option.some.injEq, Nat.zero_add, List.getElem?_cons_succ] at ha hb
        subst ha
        have := h1 x b rfl hb
        have := cmpS_swap b x
        omega
      | succ j =>
        simp only [List.getElem?_cons_succ] at ha hb
        exact h2 j a b ha hb
theorem rdn_up {l : List Part} {ws : List (List UInt8)} (h : rdnS l = some ws) : Upward ws ∧ ws.length ≤ 16 := by
  unfold rdnS at h
  split at h
  · cases h
  rename_i hn
  obtain ⟨-, h2, h3⟩ := steps_up l none ws h
  exact ⟨h2, by omega⟩
def rdnWhole (ws : List (List UInt8)) : List UInt8 := wrapS (tagOf 17) ws.flatten
theorem mem_flat {ws : List (List UInt8)} {x : List UInt8} (h : x ∈ ws) : x.length ≤ ws.flatten.length := by
  obtain ⟨i, hi⟩ := List.mem_iff_getElem?.1 h
  have h1 := flat_take hi
  have h2 := flat_le ws (i + 1)
  rw [h1, List.length_append] at h2
  omega
end Go.Q
namespace Go.Proofs.YtacekpdjapgfcaaGreatDoor
open Go Go.RowKit Go.Q
set_option linter.unusedSimpArgs false
set_option maxRecDepth 20000 in
set_option maxHeartbeats 2000000 in
theorem insertion_up (v : Value) (ls : List (List UInt8)) (w : World) (h : Parts w v ls) (hU : Upward ls) (hl : ∀ l ∈ ls, l.length ≤ 1099511627776) (hn : ls.length ≤ 1000) :
    Calls Tryz.prog 238 #[v, .int .i64 0, .int .i64 ls.length, .func (.func 146) #[] #[]] w fun e w' => e = .returned (.tuple #[]) ∧ Fr (fun _ => False) w w' := by
  obtain ⟨a, cap, rfl, hx⟩ := h.form
  have HX := Lib.hid hx
  have HU := Lib.hid hU
  have HL := Lib.hid hl
  clear h hx hU hl
  go_enter Tryz.func238, Tryz.ntmps238
  go_wp2_with fail
  go_loopg [8] ls.length (fun g ii wr => ∃ q : Nat, g = ls.length - q ∧ q ≤ 1000 ∧ ii = .int .i64 ((q : Int) + 1) ∧ Fr (fun _ => False) w wr)
  case atStart => exact ⟨0, rfl, by omega, rfl, Fr.refl _⟩
  case round =>
    obtain ⟨q, hg, hq, rfl, F⟩ := hrel
    have HG := Lib.hid hg
    have HF := Lib.hid F
    clear hg F
    by_cases hql : q + 1 < ls.length
    · have q1 : (q : Int) + 1 < (ls.length : Int) := by omega
      obtain ⟨b, off, rfl, hy⟩ := HX.out (by omega)
      obtain ⟨x, hx⟩ : ∃ x, ls[q]? = some x := ⟨_, List.getElem?_eq_getElem (by omega)⟩
      obtain ⟨y, hyy⟩ : ∃ y, ls[q + 1]? = some y := ⟨_, List.getElem?_eq_getElem hql⟩
      obtain ⟨px, cx, e1, hbx⟩ := hy q x hx
      obtain ⟨py, cy, e2, hby⟩ := hy (q + 1) y hyy
      have hcmp := HU.out q x y hx hyy
      obtain ⟨k, hk⟩ : ∃ k, k = cmpS y x := ⟨_, rfl⟩
      rw [← hk] at hcmp
      have HK := Lib.hid hk
      have hlx := HL.out x (List.mem_of_getElem? hx)
      have hly := HL.out y (List.mem_of_getElem? hyy)
      have HE := Lib.hid (fun w' (f : Fr (fun _ => False) w w') => And.intro (f.cell e1 (fun h => h)) (f.cell e2 (fun h => h)))
      have HC := Lib.hid (fun w' (f : Fr (fun _ => False) w w') => compare_any _ _ y x w' (hby.old f) (hbx.old f) hly hlx)
      rw [← HK.out] at HC
      have c1 : ¬ k < 0 := by omega
      have c2 : (0 : Int) < (q : Int) + 1 := by omega
      have c3 : (0 : Int) ≤ (q : Int) := by omega
      have c4 : (q : Int) < (ls.length : Int) := by omega
      clear hy hx hyy e1 e2 hbx hby hk hlx hly
      go_wp2_with fail
      go_loopg [9] 1 (fun g jj wx => g = 1 ∧ jj = .int .i64 ((q : Int) + 1) ∧ wx = wr)
      case atStart => exact ⟨rfl, rfl, rfl⟩
      case round =>
        obtain ⟨hg1, rfl, rfl⟩ := hrel
        clear hg1
        have HFD := Lib.hid HF.out.drew
        have hw1 : IntKind.i64.wrap ((q : Int) + 1 - 1) = (q : Int) := by simp [IntKind.wrap, IntKind.signed, IntKind.bits]; omega
        have hw2 : IntKind.i64.wrap (q : Int) = (q : Int) := by simp [IntKind.wrap, IntKind.signed, IntKind.bits]; omega
        have c6 : (0 : Int) ≤ (q : Int) + 1 := by omega
        have c7 : ((q : Int) + 1).toNat = q + 1 := by omega
        have c1' : decide (k < 0) = false := decide_eq_false (by omega)
        have c2' : decide ((0 : Int) < (q : Int) + 1) = true := decide_eq_true (by omega)
        have c5 : q < ls.length := by omega
        go_upto_region 4 with fail
        go_region_held3 (fun w' => w'.cell? ⟨b, off + q, none⟩ = some (.slice px x.length cx) ∧ w'.cell? ⟨b, off + (q + 1), none⟩ = some (.slice py y.length cy)) (first | exact HE.out _ HFD.out | exact HE.out _ (HFD.out.trans F2)) (first
          | (go_at_call 146; refine (HC.out _ HFD.out).mono ?_; rintro e w2 ⟨rfl, F2⟩))
        all_goals
          have HF2 := Lib.hid (HFD.out.trans F2)
          clear F2 hw1 hw2 c7 c1' c2' HFD
          go_wp2_with fail
          go_roundg (ls.length - (q + 1))
          case measure => rw [HG.out]; omega
          case rel => exact ⟨q + 1, rfl, by omega, by go_num, HF2.out⟩
    · have q1 : ¬ (q : Int) + 1 < (ls.length : Int) := by omega
      go_wp2_with fail
      go_end0
      exact ⟨rfl, HF.out⟩
set_option maxRecDepth 20000 in
set_option maxHeartbeats 2000000 in
theorem stable_up (v : Value) (ls : List (List UInt8)) (w : World) (h : Parts w v ls) (hU : Upward ls) (hl : ∀ l ∈ ls, l.length ≤ 1099511627776) (hn : ls.length ≤ 19) :
    Calls Tryz.prog 189 #[v, .int .i64 ls.length, .func (.func 146) #[] #[]] w fun e w' => e = .returned (.tuple #[]) ∧ Fr (fun _ => False) w w' := by
  have HI := Lib.hid (insertion_up v ls w h hU hl (by omega))
  obtain ⟨a, cap, rfl, -⟩ := h.form
  have q1 : ¬ (20 : Int) ≤ (ls.length : Int) := by omega
  have q2 : ¬ (20 : Int) < (ls.length : Int) := by omega
  clear h hU hl
  go_enter Tryz.func189, Tryz.ntmps189
  go_wp2_with fail
  go_loopg [7, 8] 1 (fun g aa bb wr => g = 1 ∧ aa = .int .i64 0 ∧ bb = .int .i64 20 ∧ wr = w)
  case atStart => exact ⟨rfl, rfl, rfl, rfl⟩
  case round =>
    obtain ⟨hg, rfl, rfl, rfl⟩ := hrel
    clear hg
    go_wp2_with fail
    refine HI.out.mono ?_
    rintro e w1 ⟨rfl, F1⟩
    have HF1 := Lib.hid F1
    clear F1
    go_wp2_with fail
    go_loopg [6] 1 (fun g bs wr => g = 1 ∧ bs = .int .i64 20 ∧ wr = w1)
    case atStart => exact ⟨rfl, rfl, rfl⟩
    case round =>
      obtain ⟨hg, rfl, rfl⟩ := hrel
      clear hg
      go_wp2_with fail
      go_end0
      exact ⟨rfl, HF1.out⟩
set_option maxRecDepth 20000 in
theorem sortStable_up (v : Value) (ls : List (List UInt8)) (w : World) (h : Parts w v ls) (hU : Upward ls) (hl : ∀ l ∈ ls, l.length ≤ 1099511627776) (hn : ls.length ≤ 19) :
    Calls Tryz.prog 148 #[v, .func (.func 146) #[] #[]] w fun e w' => e = .returned (.tuple #[]) ∧ Fr (fun _ => False) w w' := by
  have HI := Lib.hid (stable_up v ls w h hU hl hn)
  obtain ⟨a, cap, rfl, -⟩ := h.form
  clear h hU hl
  go_enter Tryz.func148, Tryz.ntmps148
  go_wp2_with fail
  refine HI.out.mono ?_
  rintro e w1 ⟨rfl, F1⟩
  go_wp2_with fail
  go_end0
  exact ⟨rfl, F1⟩
theorem parts_one {w : World} {ls : List (List UInt8)} {vs : List Value} (h3 : ∀ (i : Nat) (u : Value) (l : List UInt8), vs[i]? = some u → ls[i]? = some l → Bytes w u l) (h2 : vs.length = ls.length) : ∀ u ∈ vs, u.oneCell' = true := fun u hu => by
  obtain ⟨i, hi⟩ := List.mem_iff_getElem?.1 hu
  have hil : i < ls.length := by have := (List.getElem?_eq_some_iff.1 hi).1; omega
  obtain ⟨a, c, rfl, -⟩ := (h3 i u _ hi (List.getElem?_eq_getElem hil)).form
  rfl
set_option maxRecDepth 20000 in
set_option maxHeartbeats 1000000 in
theorem cloneParts_any (v : Value) (ls : List (List UInt8)) (w : World) (h : Parts w v ls) (hl : ls.length ≤ 100000000000) :
    Calls Tryz.prog 147 #[v] w fun e w' => (∃ u, e = .returned u ∧ Parts w' u ls) ∧ Fr (fun _ => False) w w' := by
  obtain ⟨vs, g1, g2, g3⟩ := h
  have h1 := parts_one g3 g2
  obtain ⟨a, cap, rfl, hc, hm, hx⟩ := g1
  have g1 : Vals w (.slice a vs.length cap) vs := ⟨a, cap, rfl, hc, hm, hx⟩
  have qT : ∀ (w : World) (a : Option Addr) (n c n' c' : Nat), (binOp .eql 136 (.slice a n c) (.slice none n' c')).run Tryz.prog w = .ok (.bool a.isNone) w := fun w a n c n' c' => Lib.run_eql_slice_nil w _ _ a n c n' c' Tryz.underlying136
  cases a with
  | none =>
    have h0 : vs = [] := by
      cases vs with
      | nil => rfl
      | cons u s =>
        obtain ⟨b, o, e, -⟩ := hx (by simp)
        cases e
    subst h0
    have hls : ls = [] := List.length_eq_zero_iff.1 g2.symm
    subst hls
    clear hx g1 g2 g3 h1
    go_enter Tryz.func147, Tryz.ntmps147
    go_wp2_with fail
    go_ret
    exact ⟨⟨_, rfl, [], Vals.nil w, rfl, fun i u l hu => by simp at hu⟩, Fr.refl _⟩
  | some ad =>
    have B0 := Blk.new w 23 #[]
    have F0 : Fr (fun _ => False) w (w.alloc (.cells #[] 23)) := (Fr.refl w).alloc _
    obtain ⟨a', c', w', hrun, hown, F1, -⟩ := append_vals Tryz.underlying136 info23 rfl (by decide) (own_block B0 0 (Nat.le_refl _) (Nat.zero_le _) w.heap.size (Nat.le_refl _)) F0.size (g1.old F0) h1 (by omega)
    rw [Nat.zero_add] at hrun hown
    have hF := F0.trans' F1 (fun i hi e => by simp [Value.ownBlock] at e; omega)
    have HF := Lib.hid hF
    have HP := Lib.hid (show Parts w' (.slice a' vs.length c') ls from ⟨vs, (Vals.of_own hown).1, g2, fun i u l hu hl => (g3 i u l hu hl).old hF⟩)
    have HRUN := Lib.hid hrun
    clear hrun hown F1 B0 F0 g1 g2 g3 h1 hx hF
    go_enter Tryz.func147, Tryz.ntmps147
    go_wp2_with (at_builtin; refine wpList_append_run (by rfl) (.tmp 5) (.tmp 6) 136 (by rfl) _ w' (by exact HRUN.out) ?_)
    go_ret
    exact ⟨⟨_, rfl, HP.out⟩, HF.out⟩
set_option maxRecDepth 20000 in
set_option maxHeartbeats 1000000 in
theorem setOf_up (v : Value) (ls : List (List UInt8)) (w : World) (h : Parts w v ls) (hU : Upward ls) (hf : ls.flatten.length ≤ 16777216) (hn : ls.length ≤ 19) (hl : ∀ l ∈ ls, l.length ≤ 1099511627776) :
    Calls Tryz.prog 105 #[v] w fun e w' => (∃ a c, e = .returned (.tuple #[.slice a (wrapS (tagOf 17) ls.flatten).length c, .int .i64 0]) ∧ w'.ownsRow w.heap.size 5 1 (.slice a (wrapS (tagOf 17) ls.flatten).length c) (wrapS (tagOf 17) ls.flatten).length (Lib.byteCells (wrapS (tagOf 17) ls.flatten))) ∧ Fr (fun _ => False) w w' := by
  have HC := Lib.hid (cloneParts_any v ls w h (by omega))
  obtain ⟨a, cap, rfl, -⟩ := h.form
  have HU := Lib.hid hU
  have HL := Lib.hid hl
  obtain ⟨T, hT⟩ : ∃ T, T = tagOf 17 := ⟨_, rfl⟩
  have HTG := Lib.hid (show tagGood T from by rw [hT]; exact ⟨by decide, by decide⟩)
  have HT := Lib.hid hT
  rw [← hT]
  clear h hU hl hT
  go_enter Tryz.func105, Tryz.ntmps105
  go_wp2_with fail
  refine HC.out.mono ?_
  rintro e w1 ⟨⟨u, rfl, hp⟩, F1⟩
  obtain ⟨a1, c1, rfl, -⟩ := hp.form
  have HS := Lib.hid (sortStable_up _ ls w1 hp HU.out HL.out hn)
  have HP := Lib.hid hp
  have HF1 := Lib.hid F1
  clear hp F1 HC
  go_wp2_with fail
  refine HS.out.mono ?_
  rintro e w2 ⟨rfl, F2⟩
  have HP2 := Lib.hid (HP.out.old F2)
  have HF2 := Lib.hid (HF1.out.trans F2)
  clear F2 HS HP HF1
  go_wp2_with fail
  refine (headOf_any 17 _).mono ?_
  rintro e w3 ⟨rfl, F3⟩
  rw [← HT.out]
  have HW := Lib.hid (wrap_any T HTG.out _ ls w3 (HP2.out.old F3) hf (by omega))
  have HF3 := Lib.hid (HF2.out.trans F3)
  clear F3 HP2 HF2
  go_wp2_with fail
  refine HW.out.mono ?_
  rintro e w4 ⟨v4, rfl, hown, F4⟩
  obtain ⟨a4, m4, c4, rfl, rfl⟩ := own_shape hown
  have HO := Lib.hid (own_le hown HF3.out.size)
  have HF4 := Lib.hid (HF3.out.trans F4)
  clear hown F4 HW
  go_wp2_with fail
  exact bodyPost_ret (v := .tuple #[.slice a4 (wrapS T ls.flatten).length c4, .int .i64 0]) (by simp [results, Tryz.results105, go_sem]) rfl ⟨⟨a4, c4, rfl, HO.out⟩, HF4.out⟩
def writeRdnOut (w w' : World) (r : Option (List (List UInt8))) (e : Ending) : Prop :=
  match r with
  | none => e = .returned (.tuple #[.slice none 0 0, .int .i64 1])
  | some ws => ∃ a c, e = .returned (.tuple #[.slice a (rdnWhole ws).length c, .int .i64 0]) ∧ w'.ownsRow w.heap.size 5 1 (.slice a (rdnWhole ws).length c) (rdnWhole ws).length (Lib.byteCells (rdnWhole ws))
set_option maxRecDepth 20000 in
set_option maxHeartbeats 1000000 in
theorem writeRdn_any (v : Value) (l : List Part) (w : World) (h : Attrs w v l) (hf : fewB l) (hs : ∀ ws, rdnS l = some ws → ws.flatten.length ≤ 16777216) :
    Calls Tryz.prog 57 #[v] w fun e w' => writeRdnOut w w' (rdnS l) e ∧ Fr (fun _ => False) w w' := by
  have HW := Lib.hid (wholesRdn_any v l w h hf)
  have HS := Lib.hid hs
  obtain ⟨a, cap, rfl, -⟩ := h
  clear hs
  go_enter Tryz.func57, Tryz.ntmps57
  go_wp2_with fail
  refine HW.out.mono ?_
  rintro e w1 ⟨⟨u, rfl, hr⟩, F1⟩
  have HF1 := Lib.hid F1
  clear F1 HW
  cases hd : rdnS l with
  | none =>
    clear hr
    have HD := Lib.hid hd
    clear hd
    simp only [Option.isSome_none]
    go_wp2_with fail
    refine bodyPost_ret (v := .tuple #[.slice none 0 0, .int .i64 1]) (by simp [results, Tryz.results57, go_sem]) rfl ⟨?_, HF1.out⟩
    rw [HD.out]
    rfl
  | some ws =>
    have hp := (hr ws hd).parts
    obtain ⟨hu, hn⟩ := rdn_up hd
    have hsz := HS.out ws hd
    obtain ⟨a1, c1, rfl, -⟩ := hp.form
    have HSO := Lib.hid (setOf_up _ ws w1 hp hu hsz (by omega) (fun l hl => by have := mem_flat hl; omega))
    obtain ⟨R, hR⟩ : ∃ R, R = rdnWhole ws := ⟨_, rfl⟩
    have HR := Lib.hid hR
    rw [show wrapS (tagOf 17) ws.flatten = R from hR.symm] at HSO
    simp only [Option.isSome_some]
    have HD := Lib.hid hd
    clear hr hp hu hsz hd hR
    go_wp2_with fail
    refine HSO.out.mono ?_
    rintro e w2 ⟨⟨a2, c2, rfl, hown⟩, F2⟩
    have HO := Lib.hid (own_le hown HF1.out.size)
    have HF2 := Lib.hid (HF1.out.trans F2)
    clear hown F2 HSO
    go_wp2_with fail
    refine bodyPost_ret (v := .tuple #[.slice a2 R.length c2, .int .i64 0]) (by simp [results, Tryz.results57, go_sem]) rfl ⟨?_, HF2.out⟩
    rw [HD.out]
    unfold writeRdnOut
    simp only
    rw [← HR.out]
    exact ⟨a2, c2, rfl, HO.out⟩
end Go.Proofs.YtacekpdjapgfcaaGreatDoor

namespace Go.Proofs.YtacekpdjapgfcaaGreatDoor
open Go Go.RowKit Go.Q
set_option linter.unusedSimpArgs false
theorem info158 : (Tryz.prog.info? 158).map (fun i => (i.zero, i.size, i.bytes)) = some (some (.agg #[.int .i64 0, .int .i64 0, .bool false, .bool false, .slice none 0 0]), 5, 56) := by kernel_rfl
theorem setAt4 {w : World} {z : Nat} {t : TypeId} {a0 a1 a2 a3 a4 a5 a6 : Value} (B : Blk w z t #[a0, a1, a2, a3, a4, a5, a6]) (v : Value) : Blk (w.setCell ⟨z, 4, none⟩ v) z t #[a0, a1, a2, a3, v, a5, a6] ∧ Fr (fun k => k = z) w (w.setCell ⟨z, 4, none⟩ v) :=
  ⟨by have := B.set 4 v; simpa using this, Fr.setCell (S := fun k => k = z) (p := ⟨z, 4, none⟩) (Fr.refl w) (fun _ => rfl) _⟩
set_option maxRecDepth 20000 in
theorem off_no (sb : Nat) (w : World) (h : w.cell? ⟨sb, 6, none⟩ = some (.int .i64 0)) :
    Calls Tryz.prog 106 #[pt sb] w fun e w' => e = .returned (.bool false) ∧ w = w' := by
  go_enter Tryz.func106, Tryz.ntmps106
  go_wp2_with fail
  go_ret
  exact ⟨rfl, rfl⟩
set_option maxRecDepth 20000 in
set_option maxHeartbeats 1000000 in
theorem frameAdd_any (sb : Nat) (t : TypeId) (a0 a1 a2 a3 a5 a6 bv u : Value) (base n : Nat) (xs ys : List UInt8) (w : World) (B : Blk w sb t #[a0, a1, a2, a3, bv, a5, a6]) (ho : w.ownsRow base 5 1 bv n (Lib.byteCells xs)) (hu : Bytes w u ys) (hb : base ≤ w.heap.size) (hap : ∀ k, bv.ownBlock = some k → k ≠ sb) (hn : n + ys.length ≤ 100000000) :
    Calls Tryz.prog 107 #[pt sb, u] w fun e w' => e = .returned (.tuple #[]) ∧ ∃ v, Blk w' sb t #[a0, a1, a2, a3, v, a5, a6] ∧ w'.ownsRow base 5 1 v (n + ys.length) (Lib.byteCells (xs ++ ys)) ∧ (∀ k, v.ownBlock = some k → bv.ownBlock = some k ∨ w.heap.size ≤ k) ∧ Fr (fun k => k = sb ∨ bv.ownBlock = some k) w w' := by
  obtain ⟨ab, mb, cb, rfl, rfl⟩ := own_shape ho
  obtain ⟨au, cu, rfl, -⟩ := hu.form
  have e4 := B.cell 4
  simp at e4
  obtain ⟨v, w1, hrun, ho1, F1, hv⟩ := append_bytes ho au ys.length cu ys hu (by omega) hb
  have B1 := B.fr F1 (fun e => hap sb e rfl)
  have SB := B1.cell
  have ZB := B1.frozen
  have HRUN := Lib.hid hrun
  have HO := Lib.hid ho1
  have HF1 := Lib.hid F1
  have HV := Lib.hid hv
  have HB1 := Lib.hid B1
  have hkp := (Vals.of_own ho).2
  have HKP := Lib.hid hkp
  have hlt := B.lt
  obtain ⟨a1, m1, c1, rfl, rfl⟩ := own_shape ho1
  clear hrun ho1 F1 hv hu ho B B1 hkp
  go_enter Tryz.func107, Tryz.ntmps107
  go_wp2_with (at_builtin; refine wpList_append_run (by rfl) (.tmp 8) (.tmp 9) 23 (by rfl) _ w1 (by exact HRUN.out) ?_)
  obtain ⟨B2, F2⟩ := setAt4 HB1.out (.slice a1 (mb + ys.length) c1)
  have hne : ∀ k, (Value.slice a1 (mb + ys.length) c1).ownBlock = some k → k ≠ sb := fun k hk e => by
    subst e
    rcases HV.out with h | h
    · rw [h] at hk
      exact hap k hk rfl
    · rw [h] at hk
      simp only [Option.some.injEq] at hk
      omega
  go_end0
  exact ⟨rfl, _, B2, ownsRow_fr HO.out F2 hne, fun k hk => by
    rcases HV.out with h | h
    · exact .inl (h ▸ hk)
    · rw [h] at hk
      simp only [Option.some.injEq] at hk
      exact .inr (by omega), (HF1.out.mono (fun _ _ h => .inr h)).trans (F2.mono (fun _ _ h => .inl h))⟩
structure Frm where
  tag : Tag
  set : Bool
  b : List UInt8
def frmCells (f : Frm) (bv : Value) : List Value := [.int .i64 f.tag.cls, .int .i64 f.tag.num, .bool f.tag.made, .bool f.set, bv]
def SheetAt (w : World) (base : Nat) (foot : Nat → Prop) (sb : Nat) (cur : Frm) (ar : List Frm) : Prop :=
  ∃ (bv av : Value) (bvs : List Value), Blk w sb 161 #[.int .i64 cur.tag.cls, .int .i64 cur.tag.num, .bool cur.tag.made, .bool cur.set, bv, av, .int .i64 0] ∧ foot sb ∧ w.ownsRow base 5 1 bv cur.b.length (Lib.byteCells cur.b) ∧
    bvs.length = ar.length ∧ w.ownsRow base 158 5 av ar.length (List.zipWith frmCells ar bvs).flatten ∧ (∀ (i : Nat) (b : Value) (f : Frm), bvs[i]? = some b → ar[i]? = some f → w.ownsRow base 5 1 b f.b.length (Lib.byteCells f.b)) ∧
    (∀ k, bv.ownBlock = some k → k ≠ sb ∧ foot k) ∧ (∀ k, av.ownBlock = some k → k ≠ sb ∧ bv.ownBlock ≠ some k ∧ foot k) ∧ (∀ b ∈ bvs, ∀ k, b.ownBlock = some k → k ≠ sb ∧ bv.ownBlock ≠ some k ∧ av.ownBlock ≠ some k ∧ foot k) ∧ bvs.Pairwise (fun b b' => ∀ k, b.ownBlock = some k → b'.ownBlock ≠ some k)
theorem SheetAt.fr {w w' : World} {base sb : Nat} {foot S : Nat → Prop} {cur : Frm} {ar : List Frm} (h : SheetAt w base foot sb cur ar) (f : Fr S w w') (hS : ∀ k, foot k → ¬ S k) : SheetAt w' base foot sb cur ar := by
  obtain ⟨bv, av, bvs, B, h0, h1, h2, h3, h4, h5, h6, h7, h8⟩ := h
  exact ⟨bv, av, bvs, B.fr f (hS sb h0), h0, ownsRow_fr h1 f (fun k hk => hS k (h5 k hk).2), h2, ownsRow_fr h3 f (fun k hk => hS k (h6 k hk).2.2), fun i b g hb hg => ownsRow_fr (h4 i b g hb hg) f (fun k hk => hS k (h7 b (List.mem_of_getElem? hb) k hk).2.2.2), h5, h6, h7, h8⟩
theorem SheetAt.old {w w' : World} {base sb : Nat} {foot : Nat → Prop} {cur : Frm} {ar : List Frm} (h : SheetAt w base foot sb cur ar) (f : Fr (fun _ => False) w w') : SheetAt w' base foot sb cur ar := h.fr f (fun _ _ h => h)
theorem SheetAt.lt {w : World} {base sb : Nat} {foot : Nat → Prop} {cur : Frm} {ar : List Frm} (h : SheetAt w base foot sb cur ar) : sb < w.heap.size := by
  obtain ⟨bv, av, bvs, B, -⟩ := h
  exact B.lt
theorem sheetNew_any (w : World) :
    Calls Tryz.prog 54 #[] w fun e w' => e = .returned (pt w.heap.size) ∧ SheetAt w' w.heap.size (fun k => k = w.heap.size) w.heap.size ⟨⟨0, 0, false⟩, false, []⟩ [] ∧ Fr (fun _ => False) w w' := by
  go_enter Tryz.func54, Tryz.ntmps54
  go_wp2_with fail
  go_ret
  refine ⟨rfl, ⟨.slice none 0 0, .slice none 0 0, [], Blk.new w _ _, rfl, ⟨rfl, .inl ⟨rfl, rfl⟩⟩, rfl, ⟨rfl, .inl ⟨rfl, rfl⟩⟩, (fun i b f h => by simp at h), (fun k h => by cases h), (fun k h => by cases h), (fun b h => by simp at h), List.Pairwise.nil⟩, (Fr.refl w).alloc _⟩
def Frm.more (f : Frm) (l : List UInt8) : Frm := ⟨f.tag, f.set, f.b ++ l⟩
theorem sheetAdd_any (sb base : Nat) (foot : Nat → Prop) (cur : Frm) (ar : List Frm) (u : Value) (ys : List UInt8) (w : World) (h : SheetAt w base foot sb cur ar) (hu : Bytes w u ys) (hb : base ≤ w.heap.size) (hn : cur.b.length + ys.length ≤ 100000000) :
    Calls Tryz.prog 107 #[pt sb, u] w fun e w' => e = .returned (.tuple #[]) ∧ SheetAt w' base (fun k => foot k ∨ w.heap.size ≤ k) sb (cur.more ys) ar ∧ Fr foot w w' := by
  have hlt := h.lt
  obtain ⟨bv, av, bvs, B, h0, h1, h2, h3, h4, h5, h6, h7, h8⟩ := h
  have hlk := (Vals.of_own h1).2
  refine (frameAdd_any sb _ _ _ _ _ _ _ bv u base cur.b.length cur.b ys w B h1 hu hb (fun k hk => (h5 k hk).1) hn).mono fun e w' ⟨he, v, B2, ho, hv, F⟩ => ⟨he, ⟨v, av, bvs, B2, .inl h0, ?_, h2, ?_, fun i b g hg1 hg2 => ?_, fun k hk => ?_, fun k hk => ?_, fun b hbm k hk => ?_, h8⟩, F.mono (fun k _ hk => ?_)⟩
  · show w'.ownsRow base 5 1 v (cur.b ++ ys).length (Lib.byteCells (cur.b ++ ys))
    rw [List.length_append]
    exact ho
  · exact ownsRow_fr h3 F (fun k hk e => by
      rcases e with e | e
      · exact (h6 k hk).1 e
      · exact (h6 k hk).2.1 e)
  · exact ownsRow_fr (h4 i b g hg1 hg2) F (fun k hk e => by
      have := h7 b (List.mem_of_getElem? hg1) k hk
      rcases e with e | e
      · exact this.1 e
      · exact this.2.1 e)
  · rcases hv k hk with h | h
    · exact ⟨(h5 k h).1, .inl (h5 k h).2⟩
    · exact ⟨by omega, .inr h⟩
  · refine ⟨(h6 k hk).1, fun e => ?_, .inl (h6 k hk).2.2⟩
    rcases hv k e with h | h
    · exact (h6 k hk).2.1 h
    · have := h3.lt k hk
      omega
  · have := h7 b hbm k hk
    refine ⟨this.1, fun e => ?_, this.2.2.1, .inl this.2.2.2⟩
    rcases hv k e with h | h
    · exact this.2.1 h
    · obtain ⟨i, hi⟩ := List.mem_iff_getElem?.1 hbm
      have hil : i < ar.length := by have := (List.getElem?_eq_some_iff.1 hi).1; omega
      have := (h4 i b _ hi (List.getElem?_eq_getElem hil)).lt k hk
      omega
  · rcases hk with hk | hk
    · subst hk; exact h0
    · exact (h5 k hk).2
set_option maxRecDepth 20000 in
set_option maxHeartbeats 2000000 in
theorem sheetPut_any (sb base : Nat) (foot : Nat → Prop) (cur : Frm) (ar : List Frm) (u : Value) (ls : List (List UInt8)) (w : World) (h : SheetAt w base foot sb cur ar) (hu : Kept (fun W => Parts W u ls) foot w) (hb : base ≤ w.heap.size) (hn : cur.b.length + ls.flatten.length ≤ 100000000) (hln : ls.length ≤ 1000000) :
    Calls Tryz.prog 59 #[pt sb, u] w fun e w' => e = .returned (.tuple #[]) ∧ SheetAt w' base (fun k => foot k ∨ w.heap.size ≤ k) sb (cur.more ls.flatten) ar ∧ Fr foot w w' := by
  have H := Lib.hid h
  have HU := Lib.hid hu
  obtain ⟨a, cap, rfl, -⟩ := hu.now.form
  obtain ⟨bv, av, bvs, B, h0, -⟩ := h
  have e6 := B.cell 6
  simp at e6
  clear B hu h0
  go_enter Tryz.func59, Tryz.ntmps59
  go_wp2_with fail
  refine (off_no sb w e6).mono ?_
  rintro e w0 ⟨rfl, rfl⟩
  clear e6
  go_wp2_with fail
  go_loopg [10] ls.length (fun g ii wr => ∃ j : Nat, g = ls.length - j ∧ j ≤ ls.length ∧ ii = .int .i64 j ∧ SheetAt wr base (fun k => foot k ∨ w.heap.size ≤ k) sb (cur.more (ls.take j).flatten) ar ∧ Fr foot w wr)
  case atStart =>
    obtain ⟨bv, av, bvs, B, h0, h1, h2, h3, h4, h5, h6, h7, h8⟩ := H.out
    refine ⟨0, rfl, Nat.zero_le _, rfl, ⟨bv, av, bvs, B, .inl h0, ?_, h2, h3, h4, fun k hk => ⟨(h5 k hk).1, .inl (h5 k hk).2⟩, fun k hk => ⟨(h6 k hk).1, (h6 k hk).2.1, .inl (h6 k hk).2.2⟩, fun b hb k hk => ⟨(h7 b hb k hk).1, (h7 b hb k hk).2.1, (h7 b hb k hk).2.2.1, .inl (h7 b hb k hk).2.2.2⟩, h8⟩, Fr.refl _⟩
    simpa [Frm.more] using h1
  case round =>
    obtain ⟨j, hg, hj, rfl, hS, F⟩ := hrel
    have HG := Lib.hid hg
    have HS := Lib.hid hS
    have HF := Lib.hid F
    clear hg hS F
    by_cases hjl : j < ls.length
    · have q1 : (j : Int) < (ls.length : Int) := by omega
      have hP := HU.out wr HF.out
      obtain ⟨_, _, he, hx⟩ := hP.form
      simp only [Value.slice.injEq, true_and] at he
      obtain ⟨rfl, rfl⟩ := he
      obtain ⟨b, off, rfl, hy⟩ := hx (by omega)
      obtain ⟨l, hl⟩ : ∃ l, ls[j]? = some l := ⟨_, List.getElem?_eq_getElem hjl⟩
      obtain ⟨pl, cl, e1, hbl⟩ := hy j l hl
      have hft := flat_take hl
      have hfl := flat_le ls (j + 1)
      rw [hft, List.length_append] at hfl
      have HA := Lib.hid (sheetAdd_any sb base _ _ ar _ l wr HS.out hbl (Nat.le_trans hb HF.out.size) (by
        show (cur.b ++ (ls.take j).flatten).length + l.length ≤ 100000000
        rw [List.length_append]; omega))
      have HFT := Lib.hid hft
      have s0 : (0 : Int) ≤ (j : Int) := by omega
      have hlt := HS.out.lt
      have hs0 := HF.out.size
      clear hP hx hy hl hbl hft hfl
      go_wp2_with fail
      refine HA.out.mono ?_
      rintro e w1 ⟨rfl, S1, F1⟩
      have HF1 := Lib.hid (HF.out.trans' F1 (fun k hk e => by
        rcases e with e | e
        · exact e
        · omega))
      have S2 : SheetAt w1 base (fun k => foot k ∨ w.heap.size ≤ k) sb (cur.more (ls.take (j + 1)).flatten) ar := by
        obtain ⟨bv, av, bvs, B, h0, h1, h2, h3, h4, h5, h6, h7, h8⟩ := S1
        have hw : ∀ k, ((foot k ∨ w.heap.size ≤ k) ∨ wr.heap.size ≤ k) → (foot k ∨ w.heap.size ≤ k) := fun k hk => by
          rcases hk with h | h
          · exact h
          · exact .inr (by omega)
        have hm : (cur.more (ls.take j).flatten).more l = cur.more (ls.take (j + 1)).flatten := by
          rw [HFT.out]
          simp [Frm.more]
        rw [← hm]
        exact ⟨bv, av, bvs, B, hw _ h0, h1, h2, h3, h4, fun k hk => ⟨(h5 k hk).1, hw k (h5 k hk).2⟩, fun k hk => ⟨(h6 k hk).1, (h6 k hk).2.1, hw k (h6 k hk).2.2⟩, fun b hb k hk => ⟨(h7 b hb k hk).1, (h7 b hb k hk).2.1, (h7 b hb k hk).2.2.1, hw k (h7 b hb k hk).2.2.2⟩, h8⟩
      have HS2 := Lib.hid S2
      clear S1 F1 HA S2
      go_wp2_with fail
      go_roundg (ls.length - (j + 1))
      case measure => rw [HG.out]; omega
      case rel => exact ⟨j + 1, rfl, by omega, by go_num, HS2.out, HF1.out⟩
    · obtain rfl : j = ls.length := by omega
      have q1 : ¬ (ls.length : Int) < (ls.length : Int) := by omega
      have hS := HS.out
      rw [List.take_length] at hS
      go_wp2_with fail
      go_end0
      exact ⟨rfl, hS, HF.out⟩
end Go.Proofs.YtacekpdjapgfcaaGreatDoor
