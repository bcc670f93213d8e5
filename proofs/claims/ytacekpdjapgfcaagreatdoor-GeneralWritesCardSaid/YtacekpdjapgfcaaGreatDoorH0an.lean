/-
  Merged by program: XR14B XNbLaw XMany XGenSpec XNsLaw XNsTo XNKept XNaOf XGenAt XRdG XHeld.
-/
import Derived.Test.YtacekpdjapgfcaaGreatDoorH0al
import Derived.Test.YtacekpdjapgfcaaGreatDoorH0am
import Derived.Test.YtacekpdjapgfcaaGreatDoorH0af
import Derived.Test.YtacekpdjapgfcaaGreatDoorH0aa
import Derived.Test.YtacekpdjapgfcaaGreatDoorH0ak
import Derived.Test.YtacekpdjapgfcaaGreatDoorH0aj
import Derived.Test.YtacekpdjapgfcaaGreatDoorH0ae
import Derived.Deep.Strs
namespace Go.Q
open Go Go.RowKit
open Go.Proofs.YtacekpdjapgfcaaGreatDoor
theorem steps_get : ∀ (l : List Part) (last : Option (List UInt8)) (ws : List (List UInt8)), stepsS last l = some ws → ∀ (j : Nat) (p : Part), l[j]? = some p → ∃ x, ws[j]? = some x ∧ attrS p.o p.b = some x
  | [], _, _, _, j, p, hp => by simp at hp
  | q :: t, last, ws, h, j, p, hp => by
    obtain ⟨x, ws', h1, h2, rfl, -⟩ := steps_in h
    cases j with
    | zero =>
      simp only [List.getElem?_cons_zero, Option.some.injEq] at hp
      subst hp
      exact ⟨x, rfl, h1⟩
    | succ j =>
      simp only [List.getElem?_cons_succ] at hp
      obtain ⟨y, h3, h4⟩ := steps_get t _ _ h2 j p hp
      exact ⟨y, by simpa using h3, h4⟩
theorem rdn_get {l : List Part} {ws : List (List UInt8)} (h : rdnS l = some ws) : ws.length = l.length ∧ l.length ≤ 16 ∧ ∀ (j : Nat) (p : Part), l[j]? = some p → ∃ x, ws[j]? = some x ∧ attrS p.o p.b = some x := by
  unfold rdnS at h
  split at h
  · cases h
  · rename_i hl
    exact ⟨(steps_up l none ws h).2.2, by omega, steps_get l none ws h⟩
theorem attr_room {o : List Int} {b x : List UInt8} (h : attrS o b = some x) : x.length ≤ 306 + b.length := by
  unfold attrS at h
  split at h
  · rename_i h0
    simp only [Bool.and_eq_true] at h0
    simp only [Option.some.injEq] at h
    subst h
    have h1 := oidWhole_len (nums_ok h0.1).2.1
    have h2 : (lenBytes (oidWhole o ++ b).length).length ≤ 5 := by unfold lenBytes; (repeat' split) <;> simp
    rw [wrap_len, List.length_append] at *
    omega
  · cases h
theorem flat_room {m : Nat} : ∀ {ls : List (List UInt8)}, (∀ l ∈ ls, l.length ≤ m) → ls.flatten.length ≤ ls.length * m
  | [], _ => by simp
  | x :: t, h => by
    have h1 := h x (List.mem_cons_self ..)
    have h2 := flat_room (m := m) (ls := t) (fun l hl => h l (List.mem_cons_of_mem _ hl))
    rw [List.flatten_cons, List.length_append, List.length_cons, Nat.add_mul]
    omega
theorem rdn_room {l : List Part} {ws : List (List UInt8)} (h : rdnS l = some ws) (hb : ∀ p ∈ l, p.b.length ≤ 200) : ws.flatten.length ≤ 8096 ∧ (rdnWhole ws).length ≤ 8102 := by
  obtain ⟨h1, h2, h3⟩ := rdn_get h
  have h4 : ∀ x ∈ ws, x.length ≤ 506 := fun x hx => by
    obtain ⟨i, hi⟩ := List.mem_iff_getElem?.1 hx
    have hil : i < l.length := by have := (List.getElem?_eq_some_iff.1 hi).1; omega
    obtain ⟨y, hy, ha⟩ := h3 i _ (List.getElem?_eq_getElem hil)
    rw [hi] at hy
    simp only [Option.some.injEq] at hy
    subst hy
    have := attr_room ha
    have := hb _ (List.getElem_mem hil)
    omega
  have h5 := flat_room h4
  have h6 : ws.length * 506 ≤ 16 * 506 := Nat.mul_le_mul_right _ (by omega)
  have h7 : ws.flatten.length ≤ 8096 := by omega
  refine ⟨h7, ?_⟩
  have h8 := len_small ws.flatten.length (by omega)
  unfold rdnWhole
  rw [wrap_len]
  omega
end Go.Q
namespace Go.Proofs.YtacekpdjapgfcaaGreatDoor
open Go Go.RowKit Go.Q
set_option linter.unusedSimpArgs false
set_option maxRecDepth 20000 in
set_option maxHeartbeats 2000000 in
theorem r14WriteStep_any (v : Value) (l : List Part) (ws : List (List UInt8)) (w : World) (h : Attrs w v l) (hf : fewB l) (hws : rdnS l = some ws) (hs : ws.flatten.length ≤ 16777216) :
    Calls Tryz.prog 142 #[v] w fun e w' => (∃ a c, e = .returned (.slice a (rdnWhole ws).length c) ∧ w'.ownsRow w.heap.size 5 1 (.slice a (rdnWhole ws).length c) (rdnWhole ws).length (Lib.byteCells (rdnWhole ws))) ∧ Fr (fun _ => False) w w' := by
  have H := Lib.hid h
  obtain ⟨hwl, hl16, hget⟩ := rdn_get hws
  have HGET := Lib.hid hget
  have HFL := Lib.hid (fun j => flat_le ws j)
  obtain ⟨a, cap, rfl, hc, hm, -⟩ := h
  clear hws hget
  go_enter Tryz.func142, Tryz.ntmps142
  go_wp2_with fail
  go_loopg [3, 4] l.length (fun g u i wr => ∃ j : Nat, g = l.length - j ∧ j ≤ l.length ∧ i = .int .i64 j ∧ wr.ownsRow w.heap.size 5 1 u (ws.take j).flatten.length (Lib.byteCells (ws.take j).flatten) ∧ Fr (fun _ => False) w wr)
  case atStart => exact ⟨0, rfl, Nat.zero_le _, rfl, ⟨rfl, .inl ⟨rfl, rfl⟩⟩, Fr.refl _⟩
  case round =>
    obtain ⟨j, hg, hj, rfl, hown, F⟩ := hrel
    have HG := Lib.hid hg
    have HF := Lib.hid F
    have HOW := Lib.hid hown
    obtain ⟨au, mu, cu, rfl, rfl⟩ := own_shape hown
    clear hg hown
    by_cases hjl : j < l.length
    · obtain ⟨a0, cap0, he, _, _, hx⟩ := H.out.old F
      simp only [Value.slice.injEq, true_and] at he
      obtain ⟨rfl, rfl⟩ := he
      obtain ⟨b, off, rfl, hy⟩ := hx (by omega)
      obtain ⟨p, hp⟩ : ∃ p, l[j]? = some p := ⟨_, List.getElem?_eq_getElem hjl⟩
      obtain ⟨x, y, e1, e2, hpx, hpy⟩ := hy j p hp
      obtain ⟨k, hk, hak⟩ := HGET.out j p hp
      have hft := flat_take hk
      have hfl := HFL.out (j + 1)
      rw [hft, List.length_append] at hfl
      have hpb := hf p (List.mem_of_getElem? hp)
      obtain ⟨ax, cx, rfl, -⟩ := Ints.form hpx
      obtain ⟨ay, cy, rfl, -⟩ := Vals.form hpy
      have HW0 := r14Whole_any _ _ p.o p.b wr hpx hpy hpb
      unfold rWholeOut at HW0
      rw [hak] at HW0
      simp only at HW0
      have HW := Lib.hid HW0
      have e1' : wr.cell? ⟨b, off + j * 2, none⟩ = some (.slice ax p.o.length cx) := by rw [Nat.mul_comm]; exact e1
      have e2' : wr.cell? ⟨b, off + j * 2 + 1, none⟩ = some (.slice ay p.b.length cy) := by rw [Nat.mul_comm]; exact e2
      have HFT := Lib.hid hft
      have r1 : (0 : Int) ≤ (j : Int) := by omega
      have r2 : (j : Int) < (l.length : Int) := by omega
      clear hx hy hp hpx hpy F e1 e2 hk hak hft HW0
      generalize (ws.take j).flatten = A at *
      go_wp2_with fail
      refine HW.out.mono ?_
      rintro e w2 ⟨⟨vk, rfl, ho2⟩, F2⟩
      obtain ⟨a2, m2, c2, rfl, rfl⟩ := own_shape ho2
      have hz1 := HF.out.size
      have hbk := (Vals.of_own HOW.out).2
      obtain ⟨v', w4, hrun, ho4, F4, _⟩ := append_bytes (ownsRow_fr HOW.out F2 (fun _ _ h => h)) a2 k.length c2 k (Vals.of_own ho2).1 (by omega) (Nat.le_trans hz1 F2.size)
      have HRUN := Lib.hid hrun
      have HO4 := Lib.hid ho4
      have HF4 := Lib.hid ((HF.out.trans F2).trans' F4 (fun i hi e => by have := (hbk i e).1; omega))
      clear e1' e2' HF HW F2 ho2 hrun ho4 F4 hbk HOW
      go_wp2_with (at_builtin; refine wpList_append_run (by rfl) (.tmp 21) (.tmp 22) 23 (by rfl) _ w4 (by exact HRUN.out) ?_)
      go_roundg (l.length - (j + 1))
      case measure => rw [HG.out]; omega
      case rel => exact ⟨j + 1, rfl, by omega, by go_num, by rw [HFT.out, List.length_append]; exact HO4.out, HF4.out⟩
    · obtain rfl : j = l.length := by omega
      have hT : ws.take l.length = ws := List.take_of_length_le (by omega)
      have hown := HOW.out
      rw [hT] at hown ⊢
      have HW := Lib.hid (fun w' (F : Fr (fun _ => False) wr w') => r02Wrap_any (tagOf 17) ⟨by decide, by decide⟩ _ ws.flatten w' ((Vals.of_own hown).1.old F) hs)
      have HR := Lib.hid (show rdnWhole ws = wrapS (tagOf 17) ws.flatten from rfl)
      clear hown HOW hT hs HFL HGET
      generalize ws.flatten = A at *
      go_wp2_with fail
      refine (r02Of_any 17 wr).mono ?_
      rintro e w2 ⟨rfl, F2⟩
      have HW3 := Lib.hid (HW.out w2 F2)
      have HF2 := Lib.hid (F.trans F2)
      clear HW F2 F
      go_wp2_with fail
      refine HW3.out.mono ?_
      rintro e w3 ⟨v3, rfl, ho3, F3⟩
      obtain ⟨a3, m3, c3, rfl, rfl⟩ := own_shape ho3
      have HO3 := Lib.hid (own_le ho3 HF2.out.size)
      have HF3 := Lib.hid (HF2.out.trans F3)
      clear ho3 F3 HW3
      go_wp2_with fail
      go_ret
      rw [HR.out]
      exact ⟨⟨a3, c3, rfl, HO3.out⟩, HF3.out⟩
set_option maxRecDepth 20000 in
set_option maxHeartbeats 2000000 in
theorem r14Write_any (v : Value) (n : List (List Part)) (w : World) (h : NameAt w v n) (hf : ∀ r ∈ n, fewB r) (hok : nameOk n = true) (hs : (wholesN n).flatten.length ≤ 16777216) :
    Calls Tryz.prog 94 #[v] w fun e w' => (∃ a c, e = .returned (.slice a (nameWhole n).length c) ∧ w'.ownsRow w.heap.size 5 1 (.slice a (nameWhole n).length c) (nameWhole n).length (Lib.byteCells (nameWhole n))) ∧ Fr (fun _ => False) w w' := by
  have H := Lib.hid h
  obtain ⟨hn64, hrd⟩ := name_rdns hok
  have HRD := Lib.hid hrd
  have HFL := Lib.hid (fun j => flat_le (wholesN n) j)
  obtain ⟨a, cap, rfl, hc, hm, -⟩ := h
  clear hok hrd
  go_enter Tryz.func94, Tryz.ntmps94
  go_wp2_with fail
  go_loopg [3, 4] n.length (fun g u i wr => ∃ j : Nat, g = n.length - j ∧ j ≤ n.length ∧ i = .int .i64 j ∧ wr.ownsRow w.heap.size 5 1 u ((wholesN n).take j).flatten.length (Lib.byteCells ((wholesN n).take j).flatten) ∧ Fr (fun _ => False) w wr)
  case atStart => exact ⟨0, rfl, Nat.zero_le _, rfl, ⟨rfl, .inl ⟨rfl, rfl⟩⟩, Fr.refl _⟩
  case round =>
    obtain ⟨j, hg, hj, rfl, hown, F⟩ := hrel
    have HG := Lib.hid hg
    have HF := Lib.hid F
    have HOW := Lib.hid hown
    obtain ⟨au, mu, cu, rfl, rfl⟩ := own_shape hown
    clear hg hown
    by_cases hjl : j < n.length
    · obtain ⟨a0, cap0, he, _, _, hx⟩ := H.out.old F
      simp only [Value.slice.injEq, true_and] at he
      obtain ⟨rfl, rfl⟩ := he
      obtain ⟨b, off, rfl, hy⟩ := hx (by omega)
      obtain ⟨r, hr⟩ : ∃ r, n[j]? = some r := ⟨_, List.getElem?_eq_getElem hjl⟩
      obtain ⟨x, e1, hA⟩ := hy j r hr
      have hmem := List.mem_of_getElem? hr
      obtain ⟨ws, hws⟩ := Option.isSome_iff_exists.1 (HRD.out r hmem)
      have hk : (wholesN n)[j]? = some (rdnWhole ws) := by
        unfold wholesN
        rw [List.getElem?_map, hr]
        simp [hws]
      have hft := flat_take hk
      have hfl := HFL.out (j + 1)
      rw [hft, List.length_append] at hfl
      have hwr : ws.flatten.length ≤ (rdnWhole ws).length := by
        unfold rdnWhole
        rw [wrap_len]
        omega
      have HW := Lib.hid (r14WriteStep_any x r ws wr hA (hf r hmem) hws (by omega))
      have HFT := Lib.hid hft
      have r1 : (0 : Int) ≤ (j : Int) := by omega
      have r2 : (j : Int) < (n.length : Int) := by omega
      clear hx hy hr hA F hk hft hws hwr
      generalize rdnWhole ws = k at *
      generalize ((wholesN n).take j).flatten = A at *
      go_wp2_with fail
      refine HW.out.mono ?_
      rintro e w2 ⟨⟨a2, c2, rfl, ho2⟩, F2⟩
      have hz1 := HF.out.size
      have hbk := (Vals.of_own HOW.out).2
      obtain ⟨v', w4, hrun, ho4, F4, _⟩ := append_bytes (ownsRow_fr HOW.out F2 (fun _ _ h => h)) a2 k.length c2 k (Vals.of_own ho2).1 (by omega) (Nat.le_trans hz1 F2.size)
      have HRUN := Lib.hid hrun
      have HO4 := Lib.hid ho4
      have HF4 := Lib.hid ((HF.out.trans F2).trans' F4 (fun i hi e => by have := (hbk i e).1; omega))
      clear e1 HF HW F2 ho2 hrun ho4 F4 hbk HOW
      go_wp2_with (at_builtin; refine wpList_append_run (by rfl) (.tmp 11) (.tmp 16) 23 (by rfl) _ w4 (by exact HRUN.out) ?_)
      go_roundg (n.length - (j + 1))
      case measure => rw [HG.out]; omega
      case rel => exact ⟨j + 1, rfl, by omega, by go_num, by rw [HFT.out, List.length_append]; exact HO4.out, HF4.out⟩
    · obtain rfl : j = n.length := by omega
      have hT : (wholesN n).take n.length = wholesN n := List.take_of_length_le (by simp [wholesN])
      have hown := HOW.out
      rw [hT] at hown ⊢
      have HW := Lib.hid (fun w' (F : Fr (fun _ => False) wr w') => r02Wrap_any (tagOf 16) ⟨by decide, by decide⟩ _ (wholesN n).flatten w' ((Vals.of_own hown).1.old F) hs)
      have HR := Lib.hid (show nameWhole n = wrapS (tagOf 16) (wholesN n).flatten from rfl)
      clear hown HOW hT hs HFL
      generalize (wholesN n).flatten = A at *
      go_wp2_with fail
      refine (r02Of_any 16 wr).mono ?_
      rintro e w2 ⟨rfl, F2⟩
      have HW3 := Lib.hid (HW.out w2 F2)
      have HF2 := Lib.hid (F.trans F2)
      clear HW F2 F
      go_wp2_with fail
      refine HW3.out.mono ?_
      rintro e w3 ⟨v3, rfl, ho3, F3⟩
      obtain ⟨a3, m3, c3, rfl, rfl⟩ := own_shape ho3
      have HO3 := Lib.hid (own_le ho3 HF2.out.size)
      have HF3 := Lib.hid (HF2.out.trans F3)
      clear ho3 F3 HW3
      go_wp2_with fail
      go_ret
      rw [HR.out]
      exact ⟨⟨a3, c3, rfl, HO3.out⟩, HF3.out⟩
end Go.Proofs.YtacekpdjapgfcaaGreatDoor

namespace Go.Q
open Go
theorem stepsS_last (y : Option (List UInt8)) (x : List UInt8) (p : Part) (t : List Part) (ws : List (List UInt8)) (ha : attrS p.o p.b = some x) (hc : ∀ z, y = some z → cmpS z x < 0) (h : stepsS (some x) t = some ws) : stepsS y (p :: t) = some (x :: ws) := by
  simp only [stepsS, ha, h]
  cases y with
  | none => rfl
  | some z =>
    have := hc z rfl
    simp only
    rw [if_neg (by simp; omega)]
    rfl
theorem rdnGo_back : ∀ (f : Nat) (out : List Part) (last l : List UInt8) (r : List Part), out.length ≤ 16 → l.length ≤ f → rdnGoS f out last l = .ok r → ∃ t ws, r = out ++ t ∧ stepsS (if out.length = 0 then none else some last) t = some ws ∧ ws.flatten = l ∧ r.length ≤ 16 ∧ r.length ≠ 0
  | f, out, last, [], r, ho, hl, h => by
    have h' : (if out.length = 0 then (.error 6 : Except Int (List Part)) else .ok out) = .ok r := by cases f <;> exact h
    split at h'
    · cases h'
    · rename_i h0
      cases h'
      exact ⟨[], [], by simp, rfl, rfl, ho, h0⟩
  | 0, out, last, x :: t, r, ho, hl, h => by simp at hl
  | f + 1, out, last, x :: t, r, ho, hl, h => by
    simp only [rdnGoS] at h
    split at h
    · cases h
    rename_i h16
    split at h
    · cases h
    rename_i p m hx
    obtain ⟨hb1, hb2, hb3, hb4⟩ := partRead_back hx
    split at h
    · cases h
    rename_i hc1
    split at h
    · cases h
    rename_i hc2
    obtain ⟨t', ws, rfl, h2, h3, h4, h5⟩ := rdnGo_back f (out ++ [p]) _ _ r (by rw [List.length_append, List.length_singleton]; omega) (by simp only [List.length_drop, List.length_cons] at hl ⊢; omega) h
    rw [if_neg (by simp)] at h2
    refine ⟨p :: t', (x :: t).take m :: ws, by simp, stepsS_last _ _ p t' ws hb1 (fun z hz => ?_) h2, ?_, h4, h5⟩
    · split at hz
      · cases hz
      · rename_i h0
        simp only [Option.some.injEq] at hz
        subst hz
        omega
    · rw [List.flatten_cons, h3, List.take_append_drop]
theorem rdnRead_back {l : List UInt8} {r : List Part} {k : Nat} (h : rdnReadS l = .ok (r, k)) : ∃ ws, rdnS r = some ws ∧ l.take k = rdnWhole ws ∧ k ≤ l.length ∧ 1 ≤ k := by
  have hk := rdnRead_len h
  unfold rdnReadS at h
  split at h
  · cases h
  rename_i x k' hx
  split at h
  · cases h
  rename_i r' hr
  simp only [Except.ok.injEq, Prod.mk.injEq] at h
  obtain ⟨rfl, rfl⟩ := h
  obtain ⟨h1, -, -, -⟩ := open_back hx tag17
  obtain ⟨t, ws, g1, g2, g3, g4, g5⟩ := rdnGo_back _ [] [] x _ (by simp) (Nat.le_refl _) hr
  rw [List.nil_append] at g1
  subst g1
  refine ⟨ws, ?_, by rw [h1, ← g3]; rfl, hk⟩
  unfold rdnS
  rw [if_neg (by omega)]
  exact g2
theorem nameGo_back : ∀ (f : Nat) (out : List (List Part)) (l : List UInt8) (n : List (List Part)), out.length ≤ 64 → l.length ≤ f → nameGoS f out l = .ok n → ∃ t, n = out ++ t ∧ (∀ r ∈ t, (rdnS r).isSome = true) ∧ (wholesN t).flatten = l ∧ n.length ≤ 64
  | f, out, [], n, ho, hl, h => by
    have h' : (.ok out : Except Int (List (List Part))) = .ok n := by cases f <;> exact h
    cases h'
    exact ⟨[], by simp, by simp, rfl, ho⟩
  | 0, out, x :: t, n, ho, hl, h => by simp at hl
  | f + 1, out, x :: t, n, ho, hl, h => by
    simp only [nameGoS] at h
    split at h
    · cases h
    rename_i h64
    split at h
    · cases h
    rename_i r k hx
    obtain ⟨ws, hb1, hb2, hb3, hb4⟩ := rdnRead_back hx
    obtain ⟨t', rfl, h2, h3, h4⟩ := nameGo_back f (out ++ [r]) _ n (by rw [List.length_append, List.length_singleton]; omega) (by simp only [List.length_drop, List.length_cons] at hl ⊢; omega) h
    refine ⟨r :: t', by simp, fun q hq => ?_, ?_, h4⟩
    · rcases List.mem_cons.1 hq with rfl | hq
      · rw [hb1]; rfl
      · exact h2 q hq
    · have e : wholesN (r :: t') = rdnWhole ws :: wholesN t' := by
        unfold wholesN
        rw [List.map_cons, hb1]
        rfl
      rw [e, List.flatten_cons, h3, ← hb2, List.take_append_drop]
theorem nameParse_back {l : List UInt8} {n : List (List Part)} (h : nameParseS l = .ok n) : nameOk n = true ∧ nameWhole n = l := by
  unfold nameParseS at h
  split at h
  · cases h
  rename_i n' k hr
  split at h
  · cases h
  rename_i hk
  simp only [Except.ok.injEq] at h
  subst h
  unfold nameReadS at hr
  split at hr
  · cases hr
  rename_i x k' hx
  split at hr
  · cases hr
  rename_i n2 hn
  simp only [Except.ok.injEq, Prod.mk.injEq] at hr
  obtain ⟨rfl, rfl⟩ := hr
  obtain ⟨h1, -, h3, -⟩ := open_back hx tag16
  obtain ⟨t, g1, g2, g3, g4⟩ := nameGo_back _ [] x _ (by simp) (Nat.le_refl _) hn
  rw [List.nil_append] at g1
  subst g1
  refine ⟨?_, ?_⟩
  · unfold nameOk
    rw [Bool.and_eq_true]
    exact ⟨decide_eq_true g4, List.all_eq_true.2 g2⟩
  · unfold nameWhole
    rw [g3, ← h1, List.take_of_length_le (by omega)]
end Go.Q

namespace Go.Q
open Go
section
variable {α : Type} (rd : List UInt8 → Except Int (α × Nat)) (mx : Nat)
def manyGo : Nat → List α → List UInt8 → Except Int (List α)
  | _, out, [] => .ok out
  | 0, _, _ :: _ => .error 3
  | f + 1, out, x :: t =>
    if out.length = mx then .error 2 else
    match rd (x :: t) with
    | .error e => .error e
    | .ok (g, k) => manyGo f (out ++ [g]) ((x :: t).drop k)
def manySt (out : List α) (l : List UInt8) : Except Int (List α) := manyGo rd mx l.length out l
variable {rd mx}
end
end Go.Q

namespace Go.Q
open Go Go.RowKit
structure Gen where
  k : Int
  b : List UInt8
  n : List (List Part)
def madeG (k : Int) : Bool := k == 0 || k == 3 || k == 4 || k == 5
def tagAt (k : Int) (m : Bool) : Tag := ⟨2, k, m⟩
def genTag (k : Int) : Tag := tagAt k (madeG k)
def plainB (b : List UInt8) : Bool := decide (0 < b.length) && b.all (fun c => decide (c.toNat ≤ 127))
def wholesB (b : List UInt8) : Bool := match allS b with | .ok ls => decide (0 < ls.length) | .error _ => false
def oidB (b : List UInt8) : Bool := match oidParseS b with | .ok _ => true | .error _ => false
def contB (k : Int) (b : List UInt8) : Bool :=
  if k = 1 ∨ k = 2 ∨ k = 6 then plainB b else if k = 7 then decide (b.length = 4 ∨ b.length = 16) else if k = 8 then oidB b else if k = 0 ∨ k = 3 ∨ k = 5 then wholesB b else false
def genOk (g : Gen) : Bool := if g.k = 4 then decide (g.b.length = 0) && nameOk g.n else decide (g.n.length = 0) && contB g.k g.b
def genBody (g : Gen) : List UInt8 := if g.k = 4 then nameWhole g.n else g.b
def genWhole (g : Gen) : List UInt8 := wrapS (genTag g.k) (genBody g)
def fewG (g : Gen) : Prop := g.b.length ≤ 10000000 ∧ ∀ r ∈ g.n, fewB r
def genReadS (l : List UInt8) : Except Int (Gen × Nat) :=
  match readS l with
  | .error e => .error e
  | .ok (t, n, k) =>
    if t.cls ≠ 2 ∨ 8 < t.num ∨ t.made ≠ madeG t.num then .error 4 else
    if l.length - k < n then .error 3 else
    if t.num = 4 then (match nameParseS ((l.drop k).take n) with
      | .error e => .error e
      | .ok m => .ok (⟨4, [], m⟩, k + n)) else
    if contB t.num ((l.drop k).take n) then .ok (⟨t.num, (l.drop k).take n, []⟩, k + n) else .error 6
def genSt (out : List Gen) (l : List UInt8) : Except Int (List Gen) := manySt genReadS 10000 out l
def genAllS (l : List UInt8) : Except Int (List Gen) := if l = [] then .error 6 else genSt [] l
def genListS (l : List UInt8) : Except Int (List Gen × Nat) :=
  match openS (tagOf 16) l with
  | .error e => .error e
  | .ok (y, k) => match genAllS y with
    | .error e => .error e
    | .ok gs => .ok (gs, k)
theorem cont_kind {k : Int} {b : List UInt8} (h : contB k b = true) : 0 ≤ k ∧ k ≤ 8 ∧ k ≠ 4 := by
  unfold contB at h
  split at h
  · omega
  split at h
  · omega
  split at h
  · omega
  split at h
  · omega
  · cases h
theorem gen_kind {g : Gen} (h : genOk g = true) : 0 ≤ g.k ∧ g.k ≤ 8 := by
  unfold genOk at h
  split at h
  · omega
  · rw [Bool.and_eq_true] at h
    have := cont_kind h.2
    omega
theorem genTag_good {k : Int} (h0 : 0 ≤ k) (h1 : k ≤ 8) : tagGood (genTag k) := ⟨⟨show (0 : Int) ≤ 2 by decide, show (2 : Int) < 4 by decide⟩, h0, show k < 31 by omega⟩
theorem genRead_err {l : List UInt8} {e : Int} (h : readS l = .error e) : genReadS l = .error e := by unfold genReadS; rw [h]
theorem genRead_tag {l : List UInt8} {t : Tag} {n k : Nat} (h : readS l = .ok (t, n, k)) (ht : t.cls ≠ 2 ∨ 8 < t.num ∨ t.made ≠ madeG t.num) : genReadS l = .error 4 := by unfold genReadS; rw [h]; exact if_pos ht
theorem genRead_end {l : List UInt8} {t : Tag} {n k : Nat} (h : readS l = .ok (t, n, k)) (ht : ¬ (t.cls ≠ 2 ∨ 8 < t.num ∨ t.made ≠ madeG t.num)) (hn : l.length - k < n) : genReadS l = .error 3 := by unfold genReadS; rw [h]; simp only; rw [if_neg ht, if_pos hn]
theorem genRead_dir {l : List UInt8} {t : Tag} {n k : Nat} (h : readS l = .ok (t, n, k)) (ht : ¬ (t.cls ≠ 2 ∨ 8 < t.num ∨ t.made ≠ madeG t.num)) (hn : ¬ l.length - k < n) (h4 : t.num = 4) : genReadS l = (match nameParseS ((l.drop k).take n) with | .error e => .error e | .ok m => .ok (⟨4, [], m⟩, k + n)) := by unfold genReadS; rw [h]; simp only; rw [if_neg ht, if_neg hn, if_pos h4]
theorem genRead_on {l : List UInt8} {t : Tag} {n k : Nat} (h : readS l = .ok (t, n, k)) (ht : ¬ (t.cls ≠ 2 ∨ 8 < t.num ∨ t.made ≠ madeG t.num)) (hn : ¬ l.length - k < n) (h4 : ¬ t.num = 4) : genReadS l = if contB t.num ((l.drop k).take n) then .ok (⟨t.num, (l.drop k).take n, []⟩, k + n) else .error 6 := by unfold genReadS; rw [h]; simp only; rw [if_neg ht, if_neg hn, if_neg h4]
def lowB (c : UInt8) : UInt8 := if 65 ≤ c.toNat ∧ c.toNat ≤ 90 then c + 32 else c
def lowerS (l : List UInt8) : List UInt8 := l.map lowB
def labelC (c : UInt8) : Bool := decide ((97 ≤ c.toNat ∧ c.toNat ≤ 122) ∨ (48 ≤ c.toNat ∧ c.toNat ≤ 57) ∨ c.toNat = 45 ∨ c.toNat = 95)
def labelB (l : List UInt8) : Bool := decide (1 ≤ l.length ∧ l.length ≤ 63) && (lowerS l).all labelC
def dotS (l : List UInt8) : List UInt8 := if l.getLast? = some 46 then l.dropLast else l
def hostS (l : List UInt8) : Option (List UInt8) := if 253 < (dotS l).length then none else if (cutAt 46 (dotS l)).all labelB then some (lowerS (dotS l)) else none
def lastTo (c : UInt8) (l : List UInt8) : Nat → Int
  | 0 => -1
  | j + 1 => if l[j]? = some c then (j : Int) else lastTo c l j
def lastS (c : UInt8) (l : List UInt8) : Int := lastTo c l l.length
theorem lastTo_lt (c : UInt8) (l : List UInt8) : ∀ j, -1 ≤ lastTo c l j ∧ lastTo c l j < j ∧ lastTo c l j < l.length
  | 0 => by show (-1 : Int) ≤ -1 ∧ (-1 : Int) < ((0 : Nat) : Int) ∧ (-1 : Int) < (l.length : Int); omega
  | j + 1 => by
    obtain ⟨h1, h2, h3⟩ := lastTo_lt c l j
    unfold lastTo
    split
    · rename_i h
      have := (List.getElem?_eq_some_iff.1 h).1
      omega
    · omega
def mailS (l : List UInt8) : List UInt8 := if lastS 64 l < 0 then l else l.take (lastS 64 l).toNat ++ lowerS (l.drop (lastS 64 l).toNat)
def meanS (g : Gen) : List UInt8 := if g.k = 4 then nameKeyS g.n else if g.k = 2 then (match hostS g.b with | some h => h | none => 35 :: hexS g.b) else if g.k = 1 then mailS g.b else hexS g.b
def genKeyS (g : Gen) : List UInt8 := Lib.itoa g.k ++ meanS g
def genSameS (a b : Gen) : Bool := genOk a && genOk b && decide (genKeyS a = genKeyS b)
def genMeetS (a b : List Gen) : Bool := a.any fun x => b.any fun y => genSameS x y
end Go.Q

namespace Go.Q
open Go
def cutPart (p : Part) : Part := ⟨p.o.take 40, p.b.take 200⟩
def cutStep (l : List Part) : List Part := (l.take 20).map cutPart
def cutName (n : List (List Part)) : List (List Part) := (n.take 70).map cutStep
theorem cutStep_len (l : List Part) : (cutStep l).length ≤ 20 := by
  unfold cutStep
  rw [List.length_map, List.length_take]
  omega
theorem NameAt.form {w : World} {v : Value} {n : List (List Part)} (h : NameAt w v n) : ∃ a c, v = .slice a n.length c ∧ n.length ≤ c ∧ c ≤ maxLen := by
  obtain ⟨a, c, rfl, h1, h2, -⟩ := h
  exact ⟨a, c, rfl, h1, h2⟩
def underS (n m : List (List Part)) : Bool := nameOk n && (decide (m.length ≤ n.length) && nameSameS (n.take m.length) m)
end Go.Q

namespace Go.Q
open Go Go.RowKit
theorem Ints.cut {w : World} {a : Option Addr} {c : Nat} {l : List Int} (h : Ints w (.slice a l.length c) l) (N m : Nat) (hm : m = min l.length N) : Ints w (.slice a m c) (l.take N) := by
  obtain ⟨a0, c0, he, h1, h2, -⟩ := Ints.form h
  simp only [Value.slice.injEq] at he
  obtain ⟨rfl, -, rfl⟩ := he
  have := Vals.sub h 0 m (Nat.zero_le _) (by omega) a c (fun _ b o e => by simpa using e) (by omega) h2
  simp only [Nat.sub_zero, List.drop_zero] at this
  have e : l.take N = l.take m := by
    rw [hm, ← List.take_take, List.take_of_length_le (l := l.take N) (by rw [List.length_take]; omega)]
  unfold Ints intCells
  rw [e, List.map_take]
  exact this
theorem Vals.cut {w : World} {a : Option Addr} {c : Nat} {l : List UInt8} (h : Bytes w (.slice a l.length c) l) (N m : Nat) (hm : m = min l.length N) : Bytes w (.slice a m c) (l.take N) := by
  obtain ⟨a0, c0, he, h1, h2, -⟩ := Vals.form h
  simp only [Value.slice.injEq] at he
  obtain ⟨rfl, -, rfl⟩ := he
  have := Vals.sub h 0 m (Nat.zero_le _) (by omega) a c (fun _ b o e => by simpa using e) (by omega) h2
  simp only [Nat.sub_zero, List.drop_zero] at this
  have e : l.take N = l.take m := by
    rw [hm, ← List.take_take, List.take_of_length_le (l := l.take N) (by rw [List.length_take]; omega)]
  unfold Bytes Lib.byteCells
  rw [e, List.map_take]
  exact this
theorem map_take_succ {α β : Type} (f : α → β) {l : List α} {j : Nat} {x : α} (h : l[j]? = some x) : (l.take (j + 1)).map f = (l.take j).map f ++ [f x] := by
  rw [List.take_add_one, h]
  simp
end Go.Q
namespace Go.Proofs.YtacekpdjapgfcaaGreatDoor
open Go Go.RowKit Go.Q
set_option linter.unusedSimpArgs false
set_option maxRecDepth 20000 in
set_option maxHeartbeats 4000000 in
theorem lawStep_any (v : Value) (l : List Part) (w0 w : World) (h : Attrs w0 v l) (F0 : Fr (fun _ => False) w0 w) :
    Calls Tryz.prog 52 #[v] w fun e w' => (∃ a c, e = .returned (.slice a (cutStep l).length c) ∧ ARow 108 w0 w' w.heap.size (.slice a (cutStep l).length c) (cutStep l)) ∧ Fr (fun _ => False) w w' := by
  have H := Lib.hid h
  have HF0 := Lib.hid F0
  obtain ⟨a, cap, rfl, -⟩ := h
  have hcs : cutStep l = (l.take 20).map cutPart := rfl
  have HCS := Lib.hid hcs
  clear hcs F0
  go_enter Tryz.func52, Tryz.ntmps52
  go_wp2_with fail
  go_loopg [3, 4] l.length (fun g u i wr => ∃ (j : Nat) (au : Option Addr) (cu : Nat), g = l.length - j ∧ j ≤ l.length ∧ j ≤ 20 ∧ u = .slice au j cu ∧ i = .int .i64 j ∧ ARow 108 w0 wr w.heap.size (.slice au j cu) ((l.take j).map cutPart) ∧ Fr (fun _ => False) w wr)
  case atStart => exact ⟨0, none, 0, rfl, Nat.zero_le _, by omega, rfl, rfl, ARow.nil _ _ _ _, Fr.refl _⟩
  case round =>
    obtain ⟨j, au, cu, hg, hj, hj20, rfl, rfl, hrow, F⟩ := hrel
    have HG := Lib.hid hg
    have HRW := Lib.hid hrow
    have HF := Lib.hid F
    have hml : ((l.take j).map cutPart).length = j := by rw [List.length_map, List.length_take]; omega
    have HML := Lib.hid hml
    clear hg hrow hml
    by_cases hjl : j < l.length
    · have q1 : (j : Int) < (l.length : Int) := by omega
      by_cases h20 : j < 20
      · have q2 : (j : Int) < 20 := by omega
        obtain ⟨a0, cap0, he, _, _, hx⟩ := H.out
        simp only [Value.slice.injEq, true_and] at he
        obtain ⟨rfl, rfl⟩ := he
        obtain ⟨b, off, rfl, hy⟩ := hx (by omega)
        obtain ⟨p, hp⟩ : ∃ p, l[j]? = some p := ⟨_, List.getElem?_eq_getElem hjl⟩
        obtain ⟨x, y, e1, e2, hpx, hpy⟩ := hy j p hp
        obtain ⟨ax, cx, rfl, hcx, hmx, -⟩ := Ints.form hpx
        obtain ⟨ay, cy, rfl, hcy, hmy, -⟩ := Vals.form hpy
        have e1' : wr.cell? ⟨b, off + j * 2, none⟩ = some (.slice ax p.o.length cx) := by rw [Nat.mul_comm]; exact (HF0.out.trans F).cell e1 (fun h => h)
        have e2' : wr.cell? ⟨b, off + j * 2 + 1, none⟩ = some (.slice ay p.b.length cy) := by rw [Nat.mul_comm]; exact (HF0.out.trans F).cell e2 (fun h => h)
        obtain ⟨mo, hmo⟩ : ∃ m : Nat, m = min p.o.length 40 := ⟨_, rfl⟩
        obtain ⟨mb, hmb⟩ : ∃ m : Nat, m = min p.b.length 200 := ⟨_, rfl⟩
        have HPX := Lib.hid (Ints.cut hpx 40 mo hmo)
        have HPY := Lib.hid (Vals.cut hpy 200 mb hmb)
        have HMT := Lib.hid (map_take_succ cutPart hp)
        unfold maxLen at hmx hmy
        have c1 : min (p.o.length : Int) 40 = (mo : Int) := by omega
        have c2 : min (p.b.length : Int) 200 = (mb : Int) := by omega
        have c3 : (mo : Int) ≤ (cx : Int) := by omega
        have c4 : (mb : Int) ≤ (cy : Int) := by omega
        have c5 : (0 : Int) ≤ (mo : Int) := by omega
        have c6 : (0 : Int) ≤ (mb : Int) := by omega
        have r1 : (0 : Int) ≤ (j : Int) := by omega
        clear hx hy hp e1 e2 hpx hpy hmo hmb
        go_upto_region 6 with fail
        obtain ⟨z, hz⟩ : ∃ z, z = wr.heap.size := ⟨_, rfl⟩
        have BA := Blk.new wr 107 #[.slice ax p.o.length cx, .slice ay p.b.length cy]
        have F1 : Fr (fun _ => False) wr (wr.alloc (.cells #[.slice ax p.o.length cx, .slice ay p.b.length cy] 107)) := (Fr.refl wr).alloc _
        rw [← hz] at BA ⊢
        have HZ := Lib.hid hz
        clear hz e1' e2'
        generalize (wr.alloc (.cells #[.slice ax p.o.length cx, .slice ay p.b.length cy] 107)) = w1 at *
        obtain ⟨wa, hwa⟩ : ∃ wa, wa = w1.drew.alloc (.cells #[.slice ax mo cx, .slice ay mb cy] 108) := ⟨_, rfl⟩
        have Fa : Fr (fun _ => False) wr wa := by rw [hwa]; exact F1.drew.alloc _
        have BAa : Blk wa z 107 #[.slice ax p.o.length cx, .slice ay p.b.length cy] := by rw [hwa]; exact BA.drew.alloc _
        have BX : Blk wa w1.heap.size 108 #[.slice ax mo cx, .slice ay mb cy] := by rw [hwa]; exact Blk.new w1.drew _ _
        obtain ⟨a7, c7, w7, hrun, hrow7, F7⟩ := ARow.add Tryz.underlying90 info108 (HRW.out.fr Fa (fun _ _ h => h)) (HF.out.trans Fa).size (Fr.refl wa) w1.heap.size BX (cutPart p) HPX.out HPY.out (by rw [HML.out]; omega)
        have HG7 := Lib.hid ((HF.out.trans Fa).trans' F7 (fun i hi e => absurd hi (by have := (HRW.out.keep i e).1; omega)))
        have BA7 := BAa.fr F7 (fun e => by have := (HRW.out.keep z e).2; have := HZ.out; omega)
        rw [HML.out] at hrun hrow7
        have HRUN := Lib.hid hrun
        have HROW7 := Lib.hid hrow7
        have HC0 := Lib.hid BA.drew.cell
        have HCa := Lib.hid BAa.cell
        have HC7 := Lib.hid BA7.cell
        rw [hwa] at HCa HRUN
        clear hrun hrow7 F7 BA7 BAa BX Fa F1 BA hwa
        go_region_held3 (fun w' => ∀ j, w'.cell? ⟨z, j, none⟩ = (#[.slice ax p.o.length cx, .slice ay p.b.length cy] : Array Value)[j]?) (first | exact HC0.out | exact HCa.out | exact HC7.out) (first
          | (refine step_append_run (by rfl) (.tmp 20) (.tmp 36) 90 (by rfl) _ w7 (by exact HRUN.out) ?_)
          | fail)
        all_goals
          go_wp2_with fail
          go_roundg (l.length - (j + 1))
          case measure => rw [HG.out]; omega
          case rel => exact ⟨j + 1, a7, c7, rfl, by omega, by omega, rfl, by go_num, by rw [HMT.out]; exact HROW7.out, HG7.out⟩
      · obtain rfl : j = 20 := by omega
        have q2 : ¬ ((20 : Nat) : Int) < 20 := by omega
        have hres : (l.take 20).map cutPart = cutStep l := HCS.out.symm
        have hrow := HRW.out
        rw [hres] at hrow
        have hlen : 20 = (cutStep l).length := by rw [← hres, HML.out]
        have HL := Lib.hid hlen
        have HROW := Lib.hid hrow
        clear hres hrow hlen
        go_wp2_with fail
        go_ret
        exact ⟨⟨au, cu, by rw [← HL.out]; rfl, by rw [← HL.out]; exact HROW.out⟩, F⟩
    · obtain rfl : j = l.length := by omega
      have hres : (l.take l.length).map cutPart = cutStep l := by rw [HCS.out, List.take_of_length_le hj20, List.take_length]
      have hrow := HRW.out
      rw [hres] at hrow
      have hlen : l.length = (cutStep l).length := by rw [← hres, HML.out]
      have HL := Lib.hid hlen
      have HROW := Lib.hid hrow
      clear hres hrow hlen
      go_wp2_with fail
      go_ret
      exact ⟨⟨au, cu, by rw [← HL.out]; rfl, by rw [← HL.out]; exact HROW.out⟩, F⟩
theorem info107 : (Tryz.prog.info? 107).map (fun i => (i.zero, i.size, i.bytes)) = some (some (.agg #[.slice none 0 0, .slice none 0 0]), 2, 48) := by kernel_rfl
theorem info92 : (Tryz.prog.info? 92).map (fun i => (i.zero, i.size, i.bytes)) = some (some (.slice none 0 0), 1, 24) := by kernel_rfl
end Go.Proofs.YtacekpdjapgfcaaGreatDoor

namespace Go.Q
open Go Go.RowKit
theorem own_kept {w : World} {base n : Nat} {e : TypeId} {v : Value} {xs : List Value} (h : w.ownsRow base e 1 v n xs) (K : Nat → Prop) (hK : ∀ k, K k → k < base) : Kept (fun W => Vals W v xs) K w := fun W f =>
  (Vals.of_own (Go.Proofs.YtacekpdjapgfcaaGreatDoor.ownsRow_fr h f (fun k hk hs => by have := ((Vals.of_own h).2 k hk).1; have := hK k hs; omega))).1
end Go.Q

namespace Go.Q
open Go Go.RowKit
def FRow (K : Nat → Prop) (t : TypeId) (w : World) (base : Nat) (v : Value) (n : List (List Part)) : Prop :=
  ∃ us : List Value, w.ownsRow base t 1 v n.length us ∧ us.length = n.length ∧ ∀ (i : Nat) (u : Value) (r : List Part), us[i]? = some u → n[i]? = some r → Kept (fun W => Attrs W u r) (fun k => v.ownBlock = some k ∨ K k) w
theorem FRow.old {K : Nat → Prop} {t : TypeId} {w w' : World} {base : Nat} {v : Value} {n : List (List Part)} (h : FRow K t w base v n) (f : Fr (fun _ => False) w w') : FRow K t w' base v n := by
  obtain ⟨us, h1, h2, h3⟩ := h
  exact ⟨us, Go.Proofs.YtacekpdjapgfcaaGreatDoor.ownsRow_fr h1 f (fun _ _ h => h), h2, fun i u r hu hr => (h3 i u r hu hr).old f⟩
theorem FRow.keep {K : Nat → Prop} {t : TypeId} {w : World} {base : Nat} {v : Value} {n : List (List Part)} (h : FRow K t w base v n) : ∀ k, v.ownBlock = some k → base ≤ k ∧ k < w.heap.size := by
  obtain ⟨us, h1, -⟩ := h
  exact (Vals.of_own h1).2
theorem FRow.nil (K : Nat → Prop) (t : TypeId) (w : World) (base : Nat) : FRow K t w base (.slice none 0 0) [] := ⟨[], ⟨rfl, .inl ⟨rfl, rfl⟩⟩, rfl, fun i u r h => by simp at h⟩
theorem FRow.add {P : Program} {K : Nat → Prop} {t s : TypeId} (hu0 : P.underlying s = some (.slice t)) (hinf : Info P t (.slice none 0 0) 1 24) {w wa : World} {base : Nat} {v : Value} {n : List (List Part)} (h : FRow K t w base v n) (hb : base ≤ w.heap.size) (F1 : Fr (fun _ => False) w wa) (g : Nat) (u : Value) (r : List Part) (BX : Blk wa g t #[u]) (hu1 : u.oneCell' = true) (hu : Kept (fun W => Attrs W u r) (fun k => v.ownBlock = some k ∨ K k) w) (hn : n.length ≤ 109951162777) :
    ∃ a c w', (Builtin.append_ #[s, s] s #[v, .slice (some ⟨g, 0, none⟩) 1 1]).run P wa = .ok (.slice a (n.length + 1) c) w' ∧ FRow K t w' base (.slice a (n.length + 1) c) (n ++ [r]) ∧ Fr (fun k => v.ownBlock = some k) w w' := by
  obtain ⟨us, h1, h2, h3⟩ := h
  obtain ⟨a, c, w', hrun, h4, F2, h5⟩ := add_gen hu0 hinf rfl (by decide) (by decide) h1 hb F1 g [u] rfl BX (by simpa using hu1) hn
  have hst : ∀ (x : Value) (q : List Part), Kept (fun W => Attrs W x q) (fun k => v.ownBlock = some k ∨ K k) w → Kept (fun W => Attrs W x q) (fun k => (Value.slice a (n.length + 1) c).ownBlock = some k ∨ K k) w' := fun x q hq =>
    hq.step F2 (fun _ _ h => .inl h) (fun k hk => by
      rcases hk with h | h
      · rcases h5 k h with h | h
        · exact .inl (.inl h)
        · exact .inr h
      · exact .inl (.inr h))
  refine ⟨a, c, w', hrun, ⟨us ++ [u], ?_, by simp [h2], fun i x s hx hs => ?_⟩, F2⟩
  · rw [List.length_append]
    exact h4
  · rcases Nat.lt_or_ge i us.length with hi | hi
    · rw [List.getElem?_append_left hi] at hx
      rw [List.getElem?_append_left (by omega)] at hs
      exact hst _ _ (h3 i x s hx hs)
    · obtain rfl : i = us.length := by
        have := (List.getElem?_eq_some_iff.1 hx).1
        simp at this
        omega
      rw [List.getElem?_append_right (Nat.le_refl _)] at hx
      rw [List.getElem?_append_right (by omega)] at hs
      simp at hx
      simp [h2] at hs
      subst hx; subst hs
      exact hst _ _ hu
end Go.Q
namespace Go.Proofs.YtacekpdjapgfcaaGreatDoor
open Go Go.RowKit Go.Q
set_option linter.unusedSimpArgs false
set_option maxRecDepth 20000 in
set_option maxHeartbeats 8000000 in
theorem lawOfK_any (v : Value) (n : List (List Part)) (wb w : World) (h : NameAt wb v n) (Fb : Fr (fun _ => False) wb w) (hn : n.length ≤ 1000000) (hr0 : ∀ r ∈ n, r.length ≤ 1000000) :
    Calls Tryz.prog 14 #[v] w fun e w' => (∃ a c, e = .returned (.slice a n.length c) ∧ FRow (fun k => wb.heap.size ≤ k ∧ k < w.heap.size) 92 w' w.heap.size (.slice a n.length c) n) ∧ Fr (fun _ => False) w w' := by
  have H := Lib.hid h
  have HFB := Lib.hid Fb
  have HR0 := Lib.hid hr0
  obtain ⟨a, cap, rfl, -⟩ := h
  clear hr0 Fb
  go_enter Tryz.func14, Tryz.ntmps14
  go_wp2_with fail
  go_loopg [3, 4] n.length (fun g u i wr => ∃ (j : Nat) (au : Option Addr) (cu : Nat), g = n.length - j ∧ j ≤ n.length ∧ u = .slice au j cu ∧ i = .int .i64 j ∧ FRow (fun k => wb.heap.size ≤ k ∧ k < w.heap.size) 92 wr w.heap.size (.slice au j cu) (n.take j) ∧ Fr (fun _ => False) w wr)
  case atStart => exact ⟨0, none, 0, rfl, Nat.zero_le _, rfl, rfl, FRow.nil _ _ _ _, Fr.refl _⟩
  case round =>
    obtain ⟨j, au, cu, hg, hj, rfl, rfl, hrow, F⟩ := hrel
    have HG := Lib.hid hg
    have HRW := Lib.hid hrow
    have HF := Lib.hid F
    have hml : (n.take j).length = j := by rw [List.length_take]; omega
    have HML := Lib.hid hml
    clear hg hrow hml
    by_cases hjl : j < n.length
    · have q1 : (j : Int) < (n.length : Int) := by omega
      obtain ⟨a0, cap0, he, _, _, hx⟩ := H.out
      simp only [Value.slice.injEq, true_and] at he
      obtain ⟨rfl, rfl⟩ := he
      obtain ⟨b, off, rfl, hy⟩ := hx (by omega)
      obtain ⟨r, hr⟩ : ∃ r, n[j]? = some r := ⟨_, List.getElem?_eq_getElem hjl⟩
      obtain ⟨x, e0, hA⟩ := hy j r hr
      have hrl := HR0.out r (List.mem_of_getElem? hr)
      have HE0 := Lib.hid e0
      have HMT := Lib.hid (show n.take (j + 1) = n.take j ++ [r] from by rw [List.take_add_one, hr]; rfl)
      have HA := Lib.hid hA
      obtain ⟨ar, cr, rfl, -⟩ := hA
      have r1 : (0 : Int) ≤ (j : Int) := by omega
      have r2 : (j : Int) < (n.length : Int) := by omega
      clear hx hy hr e0 F
      obtain ⟨wo, hwo⟩ : ∃ wo : World, wo = wr := ⟨_, rfl⟩
      obtain rfl := hwo
      go_wp2_with fail
      go_loopg [5, 6] r.length (fun g u k wr => ∃ (i : Nat) (a2 : Option Addr) (c2 : Nat), g = r.length - i ∧ i ≤ r.length ∧ u = .slice a2 i c2 ∧ k = .int .i64 i ∧ ARow 107 wb wr wo.heap.size (.slice a2 i c2) (r.take i) ∧ Fr (fun _ => False) wo wr)
      case atStart => exact ⟨0, none, 0, rfl, Nat.zero_le _, rfl, rfl, ARow.nil _ _ _ _, Fr.refl _⟩
      case round =>
        obtain ⟨i, a2, c2, hg, hi, rfl, rfl, hrow2, F2⟩ := hrel
        have HG2 := Lib.hid hg
        have HRW2 := Lib.hid hrow2
        have HF2 := Lib.hid F2
        have hml : (r.take i).length = i := by rw [List.length_take]; omega
        have HML2 := Lib.hid hml
        have e0 := ((HFB.out.trans HF.out).trans F2).cell HE0.out (fun h => h)
        clear hg hrow2 hml
        by_cases hil : i < r.length
        · have q2 : (i : Int) < (r.length : Int) := by omega
          obtain ⟨a1, cap1, he, _, _, hx⟩ := HA.out
          simp only [Value.slice.injEq, true_and] at he
          obtain ⟨rfl, rfl⟩ := he
          obtain ⟨b1, o1, rfl, hy⟩ := hx (by omega)
          obtain ⟨p, hp⟩ : ∃ p, r[i]? = some p := ⟨_, List.getElem?_eq_getElem hil⟩
          obtain ⟨x, y, e1, e2, hpx, hpy⟩ := hy i p hp
          obtain ⟨ax, cx, rfl, -⟩ := Ints.form hpx
          obtain ⟨ay, cy, rfl, -⟩ := Vals.form hpy
          have e1' : wb.cell? ⟨b1, o1 + i * 2, none⟩ = some (.slice ax p.o.length cx) := by rw [Nat.mul_comm]; exact e1
          have e2' : wb.cell? ⟨b1, o1 + i * 2 + 1, none⟩ = some (.slice ay p.b.length cy) := by rw [Nat.mul_comm]; exact e2
          have HMT2 := Lib.hid (show r.take (i + 1) = r.take i ++ [p] from by rw [List.take_add_one, hp]; rfl)
          have s1 : (0 : Int) ≤ (i : Int) := by omega
          obtain ⟨wa, hwa⟩ : ∃ wa, wa = wr.drew.alloc (.cells #[.slice ax p.o.length cx, .slice ay p.b.length cy] 107) := ⟨_, rfl⟩
          have Fa : Fr (fun _ => False) wr wa := by rw [hwa]; exact (Fr.refl wr).drew.alloc _
          have BX : Blk wa wr.heap.size 107 #[.slice ax p.o.length cx, .slice ay p.b.length cy] := by rw [hwa]; exact Blk.new wr.drew _ _
          obtain ⟨a7, c7, w7, hrun, hrow7, F7⟩ := ARow.add Tryz.underlying92 info107 (HRW2.out.fr Fa (fun _ _ h => h)) (HF2.out.trans Fa).size (Fr.refl wa) wr.heap.size BX p hpx hpy (by rw [HML2.out]; omega)
          have G7 : Fr (fun _ => False) wo w7 := (HF2.out.trans Fa).trans' F7 (fun i hi e => absurd hi (by have := (HRW2.out.keep i e).1; omega))
          have HG7 := Lib.hid G7
          rw [HML2.out] at hrun hrow7
          have HRUN := Lib.hid hrun
          have HROW7 := Lib.hid hrow7
          have hS : ∀ w', Fr (fun _ => False) wb w' → w'.cell? ⟨b, off + j, none⟩ = some (.slice (some ⟨b1, o1, none⟩) r.length cr) ∧ w'.cell? ⟨b1, o1 + i * 2, none⟩ = some (.slice ax p.o.length cx) ∧ w'.cell? ⟨b1, o1 + i * 2 + 1, none⟩ = some (.slice ay p.b.length cy) := fun w' f => ⟨f.cell HE0.out (fun h => h), f.cell e1' (fun h => h), f.cell e2' (fun h => h)⟩
          have HC0 := Lib.hid (hS wr.drew (((HFB.out.trans HF.out).trans HF2.out).drew))
          have HCa := Lib.hid (hS wa (((HFB.out.trans HF.out).trans HF2.out).trans Fa))
          have HC7 := Lib.hid (hS w7 ((HFB.out.trans HF.out).trans G7))
          rw [hwa] at HCa HRUN
          clear hrun hrow7 F7 G7 BX Fa hwa hx hy hp e1 e2 e1' e2' hpx hpy hS
          go_upto_region 9 with fail
          go_region_held3 (fun w' => w'.cell? ⟨b, off + j, none⟩ = some (.slice (some ⟨b1, o1, none⟩) r.length cr) ∧ w'.cell? ⟨b1, o1 + i * 2, none⟩ = some (.slice ax p.o.length cx) ∧ w'.cell? ⟨b1, o1 + i * 2 + 1, none⟩ = some (.slice ay p.b.length cy)) (first | exact HC0.out | exact HCa.out | exact HC7.out) (first
            | (refine step_append_run (by rfl) (.tmp 22) (.tmp 40) 92 (by rfl) _ w7 (by exact HRUN.out) ?_)
            | fail)
          all_goals
            go_wp2_with fail
            go_roundg (r.length - (i + 1))
            case measure => rw [HG2.out]; omega
            case rel => exact ⟨i + 1, a7, c7, rfl, by omega, rfl, by go_num, by rw [HMT2.out]; exact HROW7.out, HG7.out⟩
        · obtain rfl : i = r.length := by omega
          have hrow2 := HRW2.out
          rw [List.take_length] at hrow2
          have hkp := HRW.out.keep
          have hsw := HFB.out.size
          have hsf := HF.out.size
          have hk2 : Kept (fun W => Attrs W (.slice a2 r.length c2) r) (fun k => (Value.slice au j cu).ownBlock = some k ∨ (wb.heap.size ≤ k ∧ k < w.heap.size)) wr := hrow2.kept ((HFB.out.trans HF.out).trans HF2.out) _ (fun k e => by
            rcases e with e | e
            · have := hkp k e; omega
            · omega)
          obtain ⟨a7, c7, w7, hrun, hrow7, F7⟩ := FRow.add Tryz.underlying22 info92 (HRW.out.old HF2.out) (HF.out.trans HF2.out).size ((Fr.refl wr).alloc (.cells #[.slice a2 r.length c2] 92)) wr.heap.size _ r (Blk.new wr 92 #[.slice a2 r.length c2]) rfl hk2 (by rw [HML.out]; omega)
          have HG7 := Lib.hid ((HF.out.trans HF2.out).trans' F7 (fun i hi e => absurd hi (by have := (hkp i e).1; omega)))
          rw [HML.out] at hrun hrow7
          have HRUN := Lib.hid hrun
          have HROW7 := Lib.hid hrow7
          clear hrun hrow7 F7 hk2 hkp hrow2
          go_wp2_with (at_builtin; refine wpList_append_run (by rfl) (.tmp 42) (.tmp 44) 22 (by rfl) _ w7 (by exact HRUN.out) ?_)
          go_roundg (n.length - (j + 1))
          case measure => rw [HG.out]; omega
          case rel => exact ⟨j + 1, a7, c7, rfl, by omega, rfl, by go_num, by rw [HMT.out]; exact HROW7.out, HG7.out⟩
    · obtain rfl : j = n.length := by omega
      have hrow := HRW.out
      rw [List.take_length] at hrow
      have HROW := Lib.hid hrow
      clear hrow
      go_wp2_with fail
      go_ret
      exact ⟨⟨au, cu, rfl, HROW.out⟩, F⟩
end Go.Proofs.YtacekpdjapgfcaaGreatDoor

namespace Go.Q
open Go Go.RowKit
def RGen (W : World) (cs : List Value) (g : Gen) : Prop := ∃ vb vn, cs = [.int .i64 g.k, vb, vn] ∧ Bytes W vb g.b ∧ NameAt W vn g.n
def GenAt (W : World) (u : Value) (g : Gen) : Prop := ∃ vb vn, u = .agg #[.int .i64 g.k, vb, vn] ∧ Bytes W vb g.b ∧ NameAt W vn g.n
abbrev Gens (W : World) (v : Value) (l : List Gen) : Prop := LAt 3 RGen W v l
theorem RGen.old (w w' : World) (cs : List Value) (g : Gen) (h : RGen w cs g) (f : Fr (fun _ => False) w w') : RGen w' cs g := by
  obtain ⟨vb, vn, rfl, h1, h2⟩ := h
  exact ⟨vb, vn, rfl, h1.old f, h2.old f⟩
theorem GenAt.old {w w' : World} {u : Value} {g : Gen} (h : GenAt w u g) (f : Fr (fun _ => False) w w') : GenAt w' u g := by
  obtain ⟨vb, vn, rfl, h1, h2⟩ := h
  exact ⟨vb, vn, rfl, h1.old f, h2.old f⟩
theorem Gens.old {w w' : World} {v : Value} {l : List Gen} (h : Gens w v l) (f : Fr (fun _ => False) w w') : Gens w' v l := LAt.old RGen.old h f
theorem GenAt.form {w : World} {u : Value} {g : Gen} (h : GenAt w u g) : ∃ ab cb an cn, u = .agg #[.int .i64 g.k, .slice ab g.b.length cb, .slice an g.n.length cn] ∧ Bytes w (.slice ab g.b.length cb) g.b ∧ NameAt w (.slice an g.n.length cn) g.n := by
  obtain ⟨vb, vn, rfl, h1, h2⟩ := h
  obtain ⟨ab, cb, rfl, -⟩ := h1.form
  have h3 := h2
  obtain ⟨an, cn, rfl, -⟩ := h3
  exact ⟨ab, cb, an, cn, rfl, h1, h2⟩
theorem Gens.get {w : World} {a : Option Addr} {n c : Nat} {l : List Gen} (h : Gens w (.slice a n c) l) {i : Nat} {g : Gen} (hi : l[i]? = some g) : ∃ b o ab cb an cn, a = some ⟨b, o, none⟩ ∧ n = l.length ∧ GenAt w (.agg #[.int .i64 g.k, .slice ab g.b.length cb, .slice an g.n.length cn]) g ∧ w.cell? ⟨b, o + i * 3, none⟩ = some (.int .i64 g.k) ∧ w.cell? ⟨b, o + i * 3 + 1, none⟩ = some (.slice ab g.b.length cb) ∧ w.cell? ⟨b, o + i * 3 + 2, none⟩ = some (.slice an g.n.length cn) := by
  obtain ⟨a0, c0, he, h1, h2, h3⟩ := h
  simp only [Value.slice.injEq] at he
  obtain ⟨rfl, rfl, rfl⟩ := he
  have hil := (List.getElem?_eq_some_iff.1 hi).1
  obtain ⟨b, o, rfl, hy⟩ := h3 (by omega)
  obtain ⟨cs, -, e2, vb, vn, rfl, g1, g2⟩ := hy i g hi
  obtain ⟨ab, cb, rfl, -⟩ := g1.form
  have g3 := g2
  obtain ⟨an, cn, rfl, -⟩ := g3
  rw [Nat.mul_comm] at e2
  exact ⟨b, o, ab, cb, an, cn, rfl, rfl, ⟨_, _, rfl, g1, g2⟩, e2 0 _ rfl, e2 1 _ rfl, e2 2 _ rfl⟩
theorem NameAt.cut {w : World} {a : Option Addr} {c : Nat} {n : List (List Part)} (h : NameAt w (.slice a n.length c) n) (N m : Nat) (hm : m = min n.length N) : NameAt w (.slice a m c) (n.take N) := by
  obtain ⟨a0, c0, he, h1, h2, h3⟩ := h
  simp only [Value.slice.injEq] at he
  obtain ⟨rfl, -, rfl⟩ := he
  have hl : (n.take N).length = m := by rw [List.length_take]; omega
  refine ⟨a, c, by rw [hl], by omega, h2, fun h0 => ?_⟩
  obtain ⟨b, o, rfl, hy⟩ := h3 (by omega)
  refine ⟨b, o, rfl, fun i r hr => hy i r ?_⟩
  rw [List.getElem?_take] at hr
  split at hr
  · exact hr
  · cases hr
theorem NameAt.shape {w : World} {v : Value} {n : List (List Part)} (h : NameAt w v n) : ∃ a c, v = .slice a n.length c := by
  obtain ⟨a, c, rfl, -⟩ := h
  exact ⟨a, c, rfl⟩
theorem FRow.at {K : Nat → Prop} {t : TypeId} {w : World} {base : Nat} {v : Value} {n : List (List Part)} (h : FRow K t w base v n) : NameAt w v n := by
  obtain ⟨us, h1, h2, h3⟩ := h
  obtain ⟨a, cap, he, hc, hm, hx⟩ := (Vals.of_own h1).1
  rw [h2] at he hc hx
  refine ⟨a, cap, he, hc, hm, fun h0 => ?_⟩
  obtain ⟨b, o, rfl, hy⟩ := hx h0
  refine ⟨b, o, rfl, fun i r hr => ?_⟩
  have hi : i < us.length := by rw [h2]; exact (List.getElem?_eq_some_iff.1 hr).1
  have hu : us[i]? = some us[i] := List.getElem?_eq_getElem hi
  exact ⟨_, hy i _ hu, (h3 i _ r hu hr).now⟩
theorem FRow.kept {K : Nat → Prop} {t : TypeId} {w : World} {base : Nat} {v : Value} {n : List (List Part)} (h : FRow K t w base v n) (K' : Nat → Prop) (hK : ∀ k, K' k → K k ∧ k < base) : Kept (fun W => NameAt W v n) K' w := fun W f => by
  obtain ⟨us, h1, h2, h3⟩ := h
  have hk := (Vals.of_own h1).2
  refine FRow.at (K := K') (t := t) (base := base) ⟨us, Go.Proofs.YtacekpdjapgfcaaGreatDoor.ownsRow_fr h1 f (fun k hk2 hs => by have := (hk k hk2).1; have := (hK k hs).2; omega), h2, fun i u r hu hr => (h3 i u r hu hr).step f (fun k _ hs => .inr (hK k hs).1) (fun k hs => ?_)⟩
  rcases hs with hs | hs
  · exact .inl (.inl hs)
  · exact .inl (.inr (hK k hs).1)
end Go.Q

namespace Go.Proofs.YtacekpdjapgfcaaGreatDoor
open Go Go.RowKit Go.Q Go.ChangeShapes Go.WideShapes Go.ChangeAt
theorem three_of {α : Type} {l : List α} (h : l.length = 3) : ∃ a b c, l = [a, b, c] := by
  match l, h with
  | [a, b, c], _ => exact ⟨a, b, c, rfl⟩
section
variable {H : Type} {enc : TypeId × Value → H} {w : World} {base fuel : Nat} {spare : Nat → Bool} {held : Bool} {cs : List Value} {x : DataW H × List MemPlace}
theorem rc46 : Tryz.prog.cellsOf 46 = 3 := by kernel_rfl
theorem rc22 : Tryz.prog.cellsOf 22 = 1 := by kernel_rfl
theorem rd_gen (h : DataW.trod enc Tryz.prog w base spare held fuel 46 cs = some x) : ∃ g : Gen, RGen w cs g := by
  obtain ⟨y0, y1, y2, n, _, hl, h0, h1, h2⟩ := Go.Deep.trod_struct3 Tryz.underlying46 h
  rw [rc46] at hl
  obtain ⟨c0, c1, c2, rfl⟩ := three_of hl
  have g0 : DataW.trod enc Tryz.prog w base spare held n 3 [c0] = some y0 := by rw [← show ([c0, c1, c2].drop 0).take (Tryz.prog.cellsOf 3) = [c0] from by rw [rc3]; rfl]; exact h0
  have g1 : DataW.trod enc Tryz.prog w base spare held n 23 [c1] = some y1 := by rw [← show ([c0, c1, c2].drop 1).take (Tryz.prog.cellsOf 23) = [c1] from by rw [rc23]; rfl]; exact h1
  have g2 : DataW.trod enc Tryz.prog w base spare held n 22 [c2] = some y2 := by rw [← show ([c0, c1, c2].drop 2).take (Tryz.prog.cellsOf 22) = [c2] from by rw [rc22]; rfl]; exact h2
  obtain ⟨k, e, -, -⟩ := DataW.trod_int Tryz.underlying3 g0
  obtain ⟨v, b, e1, hb⟩ := rd_bytes g1
  obtain ⟨u, m, e2, hm⟩ := rd_name g2
  simp only [List.cons.injEq, and_true] at e e1 e2
  subst e; subst e1; subst e2
  exact ⟨⟨k, b, m⟩, c1, c2, rfl, hb, hm⟩
end
end Go.Proofs.YtacekpdjapgfcaaGreatDoor

namespace Go.Q
theorem held_z {α : Type} {o : α} {l : List α} : (o :: l)[0]? = some o := rfl
theorem held_s {α : Type} {a o : α} {l : List α} {i : Nat} (h : l[i]? = some o) : (a :: l)[i + 1]? = some o := h
theorem held_at {α : Type} {o : α} {l : List α} {i : Nat} (h : l[i]? = some o) : l.toArray[i]? = some o := by simpa using h
end Go.Q
