/-
  The walks of the layers 4 and 14: oid.Compare, name.Texts. The chapter's example of names: closed facts. The walk of the names' example. The reference of the layer 2: Of, Bytes, Length, Wrap. The walk of a name of one part. The reference of the layer 4: Right, Compare, Same. The reference of the layer 6: Kind, among, May. The reference of the layer 6: Utf8. The reference of the layer 6: what wide is to answer. The reference of the layer 6: wide. The reference of the layer 6: Signs: what it is to answer; the walks of no kind, and of UTF-8. The reference of the layer 6: Signs, the walk of pairs. The reference of the layer 6: Signs, the walk of single bytes. The reference of the layer 6: Signs. The reference of the layer 6: Of. For a drawn region that is walked operation by operation: the operation at a place of a row that is written out. The walk of NameKinds: it answers true.
-/
import Derived.Test.YtgffhiopbnkjbaaGreatDoorKb
import Derived.Test.YtgffhiopbnkjbaaGreatDoorKa
namespace Go.Q
open Go Go.RowKit
theorem cmpI_drop {o p : List Int} {j : Nat} {x y : Int} (hx : o[j]? = some x) (hy : p[j]? = some y) : cmpI (o.drop j) (p.drop j) = if x < y then -1 else if y < x then 1 else cmpI (o.drop (j + 1)) (p.drop (j + 1)) := by
  have h1 : o.drop j = x :: o.drop (j + 1) := by
    obtain ⟨h, rfl⟩ := List.getElem?_eq_some_iff.1 hx
    exact List.drop_eq_getElem_cons h
  have h2 : p.drop j = y :: p.drop (j + 1) := by
    obtain ⟨h, rfl⟩ := List.getElem?_eq_some_iff.1 hy
    exact List.drop_eq_getElem_cons h
  rw [h1, h2]
  rfl
/-- The text of a part, if it is of a type, and a text. -/
def partTextS (ks : List Int) (p : Part) : Option (List UInt8) :=
  if ks ≠ [] ∧ p.o ≠ ks then none else match textReadS p.b with
    | .ok (k, t, _) => some (utf8S k t)
    | .error _ => none
/-- The texts of a name. -/
def textsS (n : List (List Part)) (ks : List Int) : List (List UInt8) := if nameOk n = true then n.flatten.filterMap (partTextS ks) else []
theorem filterMap_next {l : List Part} {j : Nat} {p : Part} (ks : List Int) (h : l[j]? = some p) : (l.take (j + 1)).filterMap (partTextS ks) = (l.take j).filterMap (partTextS ks) ++ (partTextS ks p).toList := by
  rw [List.take_add_one, h, List.filterMap_append]
  cases hp : partTextS ks p <;> simp [hp]
end Go.Q
namespace Go.Proofs.YtgffhiopbnkjbaaGreatDoor
open Go Go.RowKit Go.Q

set_option maxRecDepth 20000 in
set_option maxHeartbeats 1000000 in
theorem sliceCompare_any (v u : Value) (o p : List Int) (w : World) (h : Ints w v o) (hu : Ints w u p) :
    Calls Tryz.prog 93 #[v, u] w fun e w' => e = .returned (.int .i64 (cmpI o p)) ∧ w = w' := by
  obtain ⟨a, cap, rfl, hc1, hm1, hx⟩ := Ints.form h
  obtain ⟨b, cbp, rfl, hc2, hm2, hy⟩ := Ints.form hu
  have HX := Lib.hid hx
  have HY := Lib.hid hy
  unfold maxLen at hm1 hm2
  clear h hu hx hy
  go_enter Tryz.func93, Tryz.ntmps93
  go_wp2_with fail
  go_loopg [11] o.length (fun g i wr => ∃ j : Nat, g = o.length - j ∧ j ≤ o.length ∧ j ≤ p.length ∧ i = .int .i64 j ∧ cmpI o p = cmpI (o.drop j) (p.drop j) ∧ wr = w)
  case atStart => exact ⟨0, rfl, Nat.zero_le _, Nat.zero_le _, rfl, rfl, rfl⟩
  case round =>
    obtain ⟨j, hg, hj, hjp, rfl, hE, rfl⟩ := hrel
    have HG := Lib.hid hg
    have HE := Lib.hid hE
    clear hg hE
    by_cases hjl : j < o.length
    · obtain ⟨ba, oa, rfl, ha⟩ := HX.out (by omega)
      obtain ⟨x, hxj⟩ : ∃ x, o[j]? = some x := ⟨_, List.getElem?_eq_getElem hjl⟩
      have e1 := ha j x hxj
      have r1 : (0 : Int) ≤ (j : Int) := by omega
      have r2 : (j : Int) < (o.length : Int) := by omega
      by_cases hjl2 : j < p.length
      · obtain ⟨bb, ob, rfl, hb⟩ := HY.out (by omega)
        obtain ⟨y, hyj⟩ : ∃ y, p[j]? = some y := ⟨_, List.getElem?_eq_getElem hjl2⟩
        have e2 := hb j y hyj
        have r3 : ¬ (p.length : Int) ≤ (j : Int) := by omega
        have r4 : (j : Int) < (p.length : Int) := by omega
        have hcd := Lib.hid (cmpI_drop hxj hyj)
        have HC := Lib.hid (show Calls Tryz.prog 128 #[.int .i64 x, .int .i64 y] wr fun e w' => e = .returned (.int .i64 (Lib.compareInt x y)) ∧ wr = w' from (Go.Proofs.Tryz.cmp_Compare_int x y wr).mono (fun _ _ h => ⟨h.1, h.2.symm⟩))
        clear ha hb hxj hyj
        have hcase : (x < y ∧ Lib.compareInt x y = -1) ∨ (y < x ∧ Lib.compareInt x y = 1) ∨ (x = y ∧ Lib.compareInt x y = 0) := by
          unfold Lib.compareInt
          by_cases h1 : x < y
          · left; refine ⟨h1, ?_⟩; simp [h1]
          · by_cases h2 : y < x
            · right; left; refine ⟨h2, ?_⟩; simp [h1, h2]
            · right; right; refine ⟨by omega, ?_⟩; simp [h1, h2]
        rcases hcase with ⟨h1, h2⟩ | ⟨h1, h2⟩ | ⟨h1, h2⟩
        · rw [h2] at HC
          have hres : cmpI o p = -1 := by rw [HE.out, hcd.out, if_pos h1]
          have HRES := Lib.hid hres
          clear hres h1 h2
          go_wp2_with fail
          refine HC.out.mono ?_
          rintro e w' ⟨rfl, rfl⟩
          go_wp2_with fail
          go_ret
          exact ⟨by rw [HRES.out]; rfl, rfl⟩
        · rw [h2] at HC
          have hres : cmpI o p = 1 := by rw [HE.out, hcd.out, if_neg (by omega), if_pos h1]
          have HRES := Lib.hid hres
          clear hres h1 h2
          go_wp2_with fail
          refine HC.out.mono ?_
          rintro e w' ⟨rfl, rfl⟩
          go_wp2_with fail
          go_ret
          exact ⟨by rw [HRES.out]; rfl, rfl⟩
        · rw [h2] at HC
          have hres : cmpI o p = cmpI (o.drop (j + 1)) (p.drop (j + 1)) := by rw [HE.out, hcd.out, if_neg (by omega), if_neg (by omega)]
          have HRES := Lib.hid hres
          clear hres h1 h2
          go_wp2_with fail
          refine HC.out.mono ?_
          rintro e w' ⟨rfl, rfl⟩
          go_wp2_with fail
          go_roundg (o.length - (j + 1))
          case measure => rw [HG.out]; omega
          case rel => exact ⟨j + 1, rfl, by omega, by omega, by go_num, HRES.out, rfl⟩
      · have r3 : (p.length : Int) ≤ (j : Int) := by omega
        have hres : cmpI o p = 1 := by
          have h1 : o.drop j = x :: o.drop (j + 1) := by
            obtain ⟨h, rfl⟩ := List.getElem?_eq_some_iff.1 hxj
            exact List.drop_eq_getElem_cons h
          have h2 : p.drop j = [] := List.drop_eq_nil_of_le (by omega)
          rw [HE.out, h1, h2]
          rfl
        have HRES := Lib.hid hres
        clear hres ha hxj
        go_wp2_with fail
        go_ret
        exact ⟨by rw [HRES.out]; rfl, rfl⟩
    · obtain rfl : j = o.length := by omega
      have h1 : o.drop o.length = [] := List.drop_length
      by_cases hlt : o.length < p.length
      · have r3 : (o.length : Int) < (p.length : Int) := by omega
        have hres : cmpI o p = -1 := by
          rw [HE.out, h1]
          have : p.drop o.length ≠ [] := fun e => by have := drop_nil e; omega
          cases hd : p.drop o.length with
          | nil => exact absurd hd this
          | cons y t => rfl
        have HRES := Lib.hid hres
        clear hres h1
        go_wp2_with fail
        go_ret
        exact ⟨by rw [HRES.out]; rfl, rfl⟩
      · have r3 : ¬ (o.length : Int) < (p.length : Int) := by omega
        have hres : cmpI o p = 0 := by
          have h2 : p.drop o.length = [] := List.drop_eq_nil_of_le (by omega)
          rw [HE.out, h1, h2]
          rfl
        have HRES := Lib.hid hres
        clear hres h1
        go_wp2_with fail
        go_ret
        exact ⟨by rw [HRES.out]; rfl, rfl⟩

theorem oidCompare_any (v u : Value) (o p : List Int) (w : World) (h : Ints w v o) (hu : Ints w u p) :
    Calls Tryz.prog 60 #[v, u] w fun e w' => e = .returned (.int .i64 (cmpI o p)) ∧ w = w' := by
  have H := Lib.hid (sliceCompare_any v u o p w h hu)
  clear h hu
  go_enter Tryz.func60, Tryz.ntmps60
  go_wp2_with fail
  refine H.out.mono ?_
  rintro e w' ⟨rfl, rfl⟩
  go_wp2_with fail
  go_ret
  exact ⟨rfl, rfl⟩

set_option maxRecDepth 20000 in
set_option maxHeartbeats 2000000 in
theorem texts_any (v u : Value) (n : List (List Part)) (ks : List Int) (w : World) (h : NameAt w v n) (hu : Ints w u ks) (hf : ∀ r ∈ n, fewB r) (hE : Env w) :
    Calls Tryz.prog 29 #[v, u] w fun e w' => (∃ x, e = .returned x ∧ Strs w' x (textsS n ks)) ∧ Fr (fun _ => False) w w' := by
  have HR := Lib.hid (right_any v n w h hf)
  have H := Lib.hid h
  have HU := Lib.hid hu
  have HE := Lib.hid hE
  obtain ⟨a, cap, rfl, -⟩ := h
  obtain ⟨b, cbp, rfl, -⟩ := Ints.form hu
  clear hu hE
  cases hok : nameOk n with
  | false =>
    have hres : textsS n ks = [] := by unfold textsS; rw [if_neg (by rw [hok]; simp)]
    have HRES := Lib.hid hres
    rw [hok] at HR
    clear hres hok
    go_enter Tryz.func29, Tryz.ntmps29
    go_wp2_with fail
    refine HR.out.mono ?_
    rintro e w1 ⟨rfl, F1⟩
    go_wp2_with fail
    go_ret
    exact ⟨⟨_, rfl, by rw [HRES.out]; exact Vals.nil w1⟩, F1⟩
  | true =>
    have hres : textsS n ks = n.flatten.filterMap (partTextS ks) := by unfold textsS; rw [if_pos hok]
    have HRES := Lib.hid hres
    obtain ⟨hn64, hrd⟩ := name_rdns hok
    have hrl : ∀ r ∈ n, 0 < r.length ∧ r.length ≤ 1000 := fun r hr => by
      have h1 := hrd r hr
      have h2 := (rdn_oids h1).1
      unfold rdnS at h1
      split at h1
      · cases h1
      · exact ⟨by omega, by omega⟩
    have hfl : ∀ p ∈ n.flatten, p.b.length ≤ 10000000 := fun p hp => by
      obtain ⟨r, hr, hpr⟩ := List.mem_flatten.1 hp
      exact hf r hr p hpr
    have hfn : n.flatten.length ≤ 64 * 1000 := by
      have : ∀ m : List (List Part), (∀ r ∈ m, r.length ≤ 1000) → m.flatten.length ≤ m.length * 1000 := by
        intro m
        induction m with
        | nil => intro _; simp
        | cons x t ih =>
          intro hm
          have h1 := hm x (by simp)
          have h2 := ih (fun r hr => hm r (by simp [hr]))
          simp only [List.flatten_cons, List.length_append, List.length_cons, Nat.add_mul]
          omega
      have h1 := this n (fun r hr => (hrl r hr).2)
      have h2 : n.length * 1000 ≤ 64 * 1000 := Nat.mul_le_mul_right _ hn64
      omega
    have HFL := Lib.hid hfl
    rw [hok] at HR
    have HRL := Lib.hid hrl
    clear hres hok hrd hfl hrl
    go_enter Tryz.func29, Tryz.ntmps29
    go_wp2_with fail
    refine HR.out.mono ?_
    rintro e w1 ⟨rfl, F1⟩
    have HCC := Lib.hid (concatRdn_any _ n w1 (H.out.old F1) (by omega) HRL.out)
    clear HR
    go_wp2_with fail
    refine HCC.out.mono ?_
    rintro e w2 ⟨⟨x2, rfl, hA2⟩, F2⟩
    have HA2 := Lib.hid hA2
    have HF2 := Lib.hid (F1.trans F2)
    obtain ⟨a2, c2, rfl⟩ := hA2.form
    clear hA2 HCC F1 F2
    generalize n.flatten = l at *
    go_wp2_with fail
    go_loopg [5, 18] l.length (fun g s i wr => ∃ (j : Nat) (ts : List (List UInt8)) (au : Option Addr) (cu : Nat), g = l.length - j ∧ j ≤ l.length ∧ s = .slice au ts.length cu ∧ i = .int .i64 j ∧ ts = (l.take j).filterMap (partTextS ks) ∧ ts.length ≤ j ∧ wr.ownsRow w2.heap.size 9 1 (.slice au ts.length cu) ts.length (ts.map str) ∧ Fr (fun _ => False) w2 wr ∧ Fr (fun _ => False) w wr)
    case atStart => exact ⟨0, [], none, 0, rfl, Nat.zero_le _, rfl, rfl, rfl, Nat.le_refl _, ⟨rfl, .inl ⟨rfl, rfl⟩⟩, Fr.refl _, HF2.out⟩
    case round =>
      obtain ⟨j, ts, au, cu, hg, hj, rfl, rfl, hts, htl, hown, F, FW⟩ := hrel
      have HG := Lib.hid hg
      have HTS := Lib.hid hts
      have HOW := Lib.hid hown
      have HF := Lib.hid F
      have HFW := Lib.hid FW
      clear hg hts hown
      by_cases hjl : j < l.length
      · obtain ⟨a0, cap0, he, _, _, hx⟩ := HA2.out.old F
        simp only [Value.slice.injEq, true_and] at he
        obtain ⟨rfl, rfl⟩ := he
        obtain ⟨bb, off, rfl, hy⟩ := hx (by omega)
        obtain ⟨p, hp⟩ : ∃ p, l[j]? = some p := ⟨_, List.getElem?_eq_getElem hjl⟩
        obtain ⟨x, y, e1, e2, hpx, hpy⟩ := hy j p hp
        have hpb := HFL.out p (List.mem_of_getElem? hp)
        have r1 : (0 : Int) ≤ (j : Int) := by omega
        have r2 : (j : Int) < (l.length : Int) := by omega
        obtain ⟨ax, cx, rfl, -⟩ := Ints.form hpx
        obtain ⟨ay, cy, rfl, -⟩ := Vals.form hpy
        have e1' : wr.cell? ⟨bb, off + j * 2, none⟩ = some (.slice ax p.o.length cx) := by rw [Nat.mul_comm]; exact e1
        have e2' : wr.cell? ⟨bb, off + j * 2 + 1, none⟩ = some (.slice ay p.b.length cy) := by rw [Nat.mul_comm]; exact e2
        have HFN := Lib.hid (filterMap_next ks hp)
        have HPX := Lib.hid hpx
        have HPY := Lib.hid hpy
        clear hx hy hp hpx hpy F FW
        go_upto_region 7 with fail
        have BZ := Blk.new wr 39 #[.slice ax p.o.length cx, .slice ay p.b.length cy]
        have F3 : Fr (fun _ => False) wr (wr.alloc (.cells #[.slice ax p.o.length cx, .slice ay p.b.length cy] 39)) := (Fr.refl wr).alloc _
        have HPX1 := Lib.hid (HPX.out.old F3)
        have HPY1 := Lib.hid (HPY.out.old F3)
        have HU1 := Lib.hid ((HU.out.old HFW.out).old F3)
        have HE1 := Lib.hid ((HE.out.old HFW.out).old F3)
        have HOW1 := Lib.hid (ownsRow_fr HOW.out F3 (fun _ _ h => h))
        have HF1 := Lib.hid (HF.out.trans F3)
        have HFW1 := Lib.hid (HFW.out.trans F3)
        clear e1 e2 e1' e2' HPX HPY F3 HOW HF HFW
        generalize (wr.alloc (.cells #[.slice ax p.o.length cx, .slice ay p.b.length cy] 39)) = w3 at *
        have z0 := BZ.cell 0
        have z1 := BZ.cell 1
        simp at z0 z1
        have skip : partTextS ks p = none → ts = (l.take (j + 1)).filterMap (partTextS ks) := fun h => by rw [HFN.out, h, ← HTS.out]; simp
        have HSK := Lib.hid skip
        clear skip
        by_cases hno : ks ≠ [] ∧ p.o ≠ ks
        · have hpt : partTextS ks p = none := by unfold partTextS; rw [if_pos hno]
          have hk0 : (0 : Int) < (ks.length : Int) := by
            have := List.length_pos_iff.2 hno.1
            omega
          have hcz : cmpI p.o ks ≠ 0 := fun e => hno.2 ((cmpI_zero _ _).1 e)
          have hq1 : (cmpI p.o ks == 0) = false := beq_eq_false_iff_ne.2 hcz
          have hq2 : (cmpI p.o ks != 0) = true := by simpa using hcz
          have HOC := Lib.hid (oidCompare_any _ _ p.o ks w3 HPX1.out HU1.out)
          have HSK2 := Lib.hid (HSK.out hpt)
          clear hpt hno hcz
          generalize cmpI p.o ks = cz at *
          go_wp2_with (first | (go_at_call 60; refine HOC.out.mono ?_; rintro e w' ⟨rfl, rfl⟩))
          go_roundg (l.length - (j + 1))
          case measure => rw [HG.out]; omega
          case rel => exact ⟨j + 1, ts, au, cu, rfl, by omega, rfl, by go_num, HSK2.out, by omega, HOW1.out, HF1.out, HFW1.out⟩
        · have hpt : partTextS ks p = match textReadS p.b with | .ok (k, t, _) => some (utf8S k t) | .error _ => none := by unfold partTextS; rw [if_neg hno]
          have HPT := Lib.hid hpt
          have HW := Lib.hid (words_any _ p.b w3 HPY1.out HE1.out (by omega))
          have hcase : (¬ (0 : Int) < (ks.length : Int)) ∨ ((0 : Int) < (ks.length : Int) ∧ cmpI p.o ks = 0) := by
            by_cases hk : ks = []
            · left; rw [hk]; simp
            · right
              refine ⟨by have := List.length_pos_iff.2 hk; omega, (cmpI_zero _ _).2 ?_⟩
              exact Classical.byContradiction fun h => hno ⟨hk, h⟩
          have HOC := Lib.hid (oidCompare_any _ _ p.o ks w3 HPX1.out HU1.out)
          clear hpt hno
          rcases hcase with hk0 | ⟨hk0, hcz⟩
          case' inr => rw [hcz] at HOC
          all_goals
            go_wp2_with (first | (go_at_call 60; refine HOC.out.mono ?_; rintro e w' ⟨rfl, rfl⟩))
            refine HW.out.mono ?_
            rintro e w4 ⟨hout, F4⟩
            unfold WordsOut at hout
            cases hr : textReadS p.b with
            | error x =>
              rw [hr] at hout
              subst hout
              have hpt : partTextS ks p = none := by rw [HPT.out, hr]
              have HSK2 := Lib.hid (HSK.out hpt)
              have F5 : Fr (fun _ => False) w4 (w4.alloc (.cells #[.int .i64 0, .slice none 0 0] 107)) := (Fr.refl w4).alloc _
              have HOW5 := Lib.hid (ownsRow_fr (ownsRow_fr HOW1.out F4 (fun _ _ h => h)) F5 (fun _ _ h => h))
              have HF5 := Lib.hid ((HF1.out.trans F4).trans F5)
              have HFW5 := Lib.hid ((HFW1.out.trans F4).trans F5)
              clear hr hpt F4 F5 HOW1 HF1 HFW1
              go_wp2_with fail
              go_roundg (l.length - (j + 1))
              case measure => rw [HG.out]; omega
              case rel => exact ⟨j + 1, ts, au, cu, rfl, by omega, rfl, by go_num, HSK2.out, by omega, HOW5.out, HF5.out, HFW5.out⟩
            | ok kbn =>
              obtain ⟨k, t, m⟩ := kbn
              rw [hr] at hout
              obtain ⟨ut, rfl, hbt⟩ := hout
              obtain ⟨hrt, htl2⟩ := textRead_ok hr
              obtain ⟨at_, ct, rfl, -⟩ := hbt.form
              have hpt : partTextS ks p = some (utf8S k t) := by rw [HPT.out, hr]
              have hnx : ts ++ [utf8S k t] = (l.take (j + 1)).filterMap (partTextS ks) := by rw [HFN.out, hpt, ← HTS.out]; rfl
              have HNX := Lib.hid hnx
              have F5 : Fr (fun _ => False) w4 (w4.alloc (.cells #[.int .i64 k, .slice at_ t.length ct] 107)) := (Fr.refl w4).alloc _
              have HUT := Lib.hid (textUtf8_any k _ t _ (hbt.old F5) ((HE1.out.old F4).old F5).tabs hrt (by omega))
              have HOW5 := Lib.hid (ownsRow_fr (ownsRow_fr HOW1.out F4 (fun _ _ h => h)) F5 (fun _ _ h => h))
              have HF5 := Lib.hid ((HF1.out.trans F4).trans F5)
              have HFW5 := Lib.hid ((HFW1.out.trans F4).trans F5)
              clear hr hpt hnx F4 F5 HOW1 HF1 HFW1 hbt hrt
              generalize utf8S k t = ut at *
              go_upto_region 9 with fail
              have BT := Blk.new w4 107 #[.int .i64 k, .slice at_ t.length ct]
              obtain ⟨yy, hyy⟩ : ∃ y, y = w4.heap.size := ⟨_, rfl⟩
              rw [← hyy] at BT ⊢
              clear hyy
              generalize (w4.alloc (.cells #[.int .i64 k, .slice at_ t.length ct] 107)) = w5 at *
              have t0 := BT.cell 0
              have t1 := BT.cell 1
              simp only [List.getElem?_toArray, List.getElem?_cons_succ, List.getElem?_cons_zero] at t0 t1
              go_wp2_with fail
              refine HUT.out.mono ?_
              rintro e w6 ⟨rfl, F6⟩
              have F7 : Fr (fun _ => False) w6 (w6.alloc (.cells #[str ut] 9)) := (Fr.refl w6).alloc _
              have hs1 := HF5.out.size
              have hs2 := F6.size
              have hbk := (Vals.of_own HOW5.out).2
              have hs0 := HF2.out.size
              obtain ⟨a', c', w8, hrun, hown8, F8, -⟩ := add_gen Tryz.underlying53 info9 rfl (by decide) (by decide) (ownsRow_fr HOW5.out F6 (fun _ _ h => h)) (by omega) F7 w6.heap.size [str ut] rfl (Blk.new w6 9 #[str ut]) (by simp [Value.oneCell']) (by omega)
              have HRUN := Lib.hid hrun
              have HOW8 := Lib.hid hown8
              have HFW8 := Lib.hid ((HFW5.out.trans F6).trans' F8 (fun i hi e => by have := (hbk i e).1; omega))
              have HF8 := Lib.hid ((HF5.out.trans F6).trans' F8 (fun i hi e => by have := (hbk i e).1; omega))
              clear F6 F7 hrun hown8 F8 hbk HOW5 HF5 HFW5 BT t0 t1 HUT
              go_wp2_with (at_builtin; refine wpList_append_run (by rfl) (.tmp 44) (.tmp 46) 53 (by rfl) _ w8 (by exact HRUN.out) ?_)
              go_roundg (l.length - (j + 1))
              case measure => rw [HG.out]; omega
              case rel => exact ⟨j + 1, ts ++ [ut], a', c', rfl, by omega, by rw [List.length_append]; rfl, by go_num, HNX.out, by rw [List.length_append]; simp only [List.length_singleton]; omega, by rw [List.length_append, List.map_append]; exact HOW8.out, HF8.out, HFW8.out⟩
      · obtain rfl : j = l.length := by omega
        have hall : ts = l.filterMap (partTextS ks) := by rw [HTS.out, List.take_length]
        have HALL := Lib.hid hall
        have hv := Lib.hid (Vals.of_own HOW.out).1
        clear hall
        go_wp2_with fail
        go_ret
        exact ⟨⟨_, rfl, by rw [HRES.out, ← HALL.out]; exact hv.out⟩, FW⟩
end Go.Proofs.YtgffhiopbnkjbaaGreatDoor

namespace Go.Q
open Go Go.RowKit
def knT1 : List UInt8 := [50, 46, 53, 46, 52, 46, 51, 61, 67, 65]
def knT2 : List UInt8 := [50, 46, 53, 46, 52, 46, 49, 48, 61, 32, 70, 111, 111, 32, 32, 66, 97, 114, 32]
def knT3 : List UInt8 := [50, 46, 53, 46, 52, 46, 51, 61, 99, 97]
def knT4 : List UInt8 := [50, 46, 53, 46, 52, 46, 49, 48, 61, 102, 111, 111, 32, 98, 97, 114]
def knV1 : List UInt8 := wrapS (tagOf 19) ([67, 65])
def knV2 : List UInt8 := wrapS (tagOf 19) ([32, 70, 111, 111, 32, 32, 66, 97, 114, 32])
def knV3 : List UInt8 := wrapS (tagOf 19) ([99, 97])
def knV4 : List UInt8 := wrapS (tagOf 19) ([102, 111, 111, 32, 98, 97, 114])
def knA : List (List Part) := [[⟨[2, 5, 4, 3], knV1⟩], [⟨[2, 5, 4, 10], knV2⟩]]
def knB : List (List Part) := [[⟨[2, 5, 4, 3], knV3⟩], [⟨[2, 5, 4, 10], knV4⟩]]
theorem knA_of : nameOfS [knT1, knT2] = .ok knA := by kernel_rfl
theorem knB_of : nameOfS [knT3, knT4] = .ok knB := by kernel_rfl
theorem knA_ok : nameOk knA = true := by kernel_rfl
theorem knA1_ok : nameOk (knA.take 1) = true := by kernel_rfl
theorem knB_ok : nameOk knB = true := by kernel_rfl
theorem name2_key (p q : Part) : nameKeyS [[p], [q]] = attrKeyS p.o p.b ++ ([47] ++ attrKeyS q.o q.b) := by
  unfold nameKeyS
  rw [List.map_cons, List.map_cons, List.map_nil, rdnKey_one, rdnKey_one, Lib.join_cons]
  simp [Lib.joinTail]
theorem kn_same : nameSameS knA knB = true := by
  unfold nameSameS
  rw [knA_ok, knB_ok]
  have e1 : foldS (signsS 19 ([67, 65])) = foldS (signsS 19 ([99, 97])) := by kernel_rfl
  have e2 : foldS (signsS 19 ([32, 70, 111, 111, 32, 32, 66, 97, 114, 32])) = foldS (signsS 19 ([102, 111, 111, 32, 98, 97, 114])) := by kernel_rfl
  have e : nameKeyS knA = nameKeyS knB := by
    unfold knA knB
    rw [name2_key, name2_key]
    unfold knV1 knV2 knV3 knV4
    rw [attrKey_wrap (by kernel_rfl) (of_decide_eq_true (by kernel_rfl)), attrKey_wrap (by kernel_rfl) (of_decide_eq_true (by kernel_rfl)), attrKey_wrap (by kernel_rfl) (of_decide_eq_true (by kernel_rfl)), attrKey_wrap (by kernel_rfl) (of_decide_eq_true (by kernel_rfl)), e1, e2]
  rw [e]
  simp
theorem kn_texts : textsS knA [2, 5, 4, 3] = [[67, 65]] := by
  unfold textsS
  rw [knA_ok]
  kernel_rfl
theorem kn_front : nameSameS knA (knA.take 1) = false := by
  unfold nameSameS
  rw [knA_ok, knA1_ok]
  have e : ¬ nameKeyS knA = nameKeyS (knA.take 1) := fun h => by
    have h2 := congrArg List.length h
    rw [show knA.take 1 = oneN [2, 5, 4, 3] knV1 from rfl, oneN_key] at h2
    unfold knA at h2
    rw [name2_key] at h2
    simp only [List.length_append, List.length_cons, List.length_nil] at h2
    omega
  rw [decide_eq_false e]
  rfl
theorem kn_few : ∀ r ∈ knA, fewB r := by
  intro r hr p hp
  simp only [knA, List.mem_cons, List.not_mem_nil, or_false] at hr
  rcases hr with rfl | rfl <;> (rw [List.mem_singleton.1 hp]; exact of_decide_eq_true (by kernel_rfl))
theorem kn_fewB : ∀ r ∈ knB, fewB r := by
  intro r hr p hp
  simp only [knB, List.mem_cons, List.not_mem_nil, or_false] at hr
  rcases hr with rfl | rfl <;> (rw [List.mem_singleton.1 hp]; exact of_decide_eq_true (by kernel_rfl))
/-- The first steps of a name. -/
theorem NameAt.take {w : World} {a : Option Addr} {m cap : Nat} {n : List (List Part)} (h : NameAt w (.slice a m cap) n) (k : Nat) (hk : k ≤ n.length) (cap' : Nat) (hc : k ≤ cap') (hm : cap' ≤ maxLen) : NameAt w (.slice a k cap') (n.take k) := by
  obtain ⟨a0, cap0, he, h1, h2, h3⟩ := h
  simp only [Value.slice.injEq] at he
  obtain ⟨rfl, rfl, rfl⟩ := he
  have hl : (n.take k).length = k := by rw [List.length_take]; omega
  refine ⟨a, cap', by rw [hl], by omega, hm, fun h0 => ?_⟩
  obtain ⟨b, o, rfl, hy⟩ := h3 (by omega)
  refine ⟨b, o, rfl, fun i r hr => hy i r ?_⟩
  rw [List.getElem?_take] at hr
  split at hr
  · exact hr
  · cases hr
end Go.Q

namespace Go.Proofs.YtgffhiopbnkjbaaGreatDoor
open Go Go.RowKit Go.Q

set_option maxRecDepth 20000 in
set_option maxHeartbeats 2000000 in
theorem nmKnown_any (w : World) (hE : Env w) :
    Calls Tryz.prog 12 #[] w fun e w' => e = .returned (.bool true) ∧ Fr (fun _ => False) w w' := by
  have HE := Lib.hid hE
  have strs2 : ∀ (W : World) (x y : List UInt8), Strs (W.alloc (.cells #[str x, str y] 9)) (.slice (some ⟨W.heap.size, 0, none⟩) 2 2) [x, y] := fun W x y => Vals.of_block (Blk.new W 9 #[str x, str y]) (by unfold maxLen; simp)
  have few2 : ∀ x y : List UInt8, x.length ≤ 10000000 → y.length ≤ 10000000 → ∀ k ∈ [x, y], k.length ≤ 10000000 := fun x y hx hy k hk => by
    rcases List.mem_cons.1 hk with rfl | hk
    · exact hx
    · rw [List.mem_singleton.1 hk]; exact hy
  have HS2 := Lib.hid strs2
  have HF2 := Lib.hid few2
  clear hE strs2 few2
  go_enter Tryz.func12, Tryz.ntmps12
  go_wp2_with fail
  have G1 : Fr (fun _ => False) w (w.alloc (.cells #[str knT1, str knT2] 9)) := (Fr.refl w).alloc _
  refine (nameOf_any _ [knT1, knT2] _ (HS2.out w knT1 knT2) (HE.out.old G1) (HF2.out knT1 knT2 (by decide) (by decide)) (by simp)).mono ?_
  rintro e w1 ⟨hout, F1⟩
  unfold NameOfOut at hout
  rw [knA_of] at hout
  obtain ⟨vA, rfl, hA⟩ := hout
  have hAt := hA.at
  obtain ⟨aA, cA, rfl⟩ := hA.shape
  have hcA : 2 ≤ cA := by
    obtain ⟨a0, c0, he, h1, _⟩ := hAt
    simp only [Value.slice.injEq] at he
    obtain ⟨-, -, rfl⟩ := he
    exact h1
  have hmA : cA ≤ maxLen := by
    obtain ⟨a0, c0, he, _, h1, _⟩ := hAt
    simp only [Value.slice.injEq] at he
    obtain ⟨-, -, rfl⟩ := he
    exact h1
  rw [show knA.length = 2 from rfl] at *
  have HA := Lib.hid hAt
  have HG1 := Lib.hid (G1.trans F1)
  have HMA := Lib.hid hmA
  clear hA hAt F1 G1 hmA
  go_wp2_with fail
  have G2 : Fr (fun _ => False) w1 (w1.alloc (.cells #[str knT3, str knT4] 9)) := (Fr.refl w1).alloc _
  refine (nameOf_any _ [knT3, knT4] _ (HS2.out w1 knT3 knT4) ((HE.out.old HG1.out).old G2) (HF2.out knT3 knT4 (by decide) (by decide)) (by simp)).mono ?_
  rintro e w2 ⟨hout, F2⟩
  unfold NameOfOut at hout
  rw [knB_of] at hout
  obtain ⟨vB, rfl, hB⟩ := hout
  have hBt := hB.at
  obtain ⟨aB, cB, rfl⟩ := hB.shape
  rw [show knB.length = 2 from rfl] at *
  have HA2 := Lib.hid (HA.out.old (G2.trans F2))
  have HB2 := Lib.hid hBt
  have HG2 := Lib.hid ((HG1.out.trans G2).trans F2)
  clear hB hBt F2 G2 HA HG1
  go_wp2_with fail
  have G3 : Fr (fun _ => False) w2 (w2.alloc (.cells #[.int .i64 2, .int .i64 5, .int .i64 4, .int .i64 3] 3)) := (Fr.refl w2).alloc _
  have hI : Ints (w2.alloc (.cells #[.int .i64 2, .int .i64 5, .int .i64 4, .int .i64 3] 3)) (.slice (some ⟨w2.heap.size, 0, none⟩) 4 4) [2, 5, 4, 3] := Vals.of_block (Blk.new w2 3 #[.int .i64 2, .int .i64 5, .int .i64 4, .int .i64 3]) (by unfold maxLen; simp)
  refine (texts_any _ _ knA [2, 5, 4, 3] _ (HA2.out.old G3) hI kn_few ((HE.out.old HG2.out).old G3)).mono ?_
  rintro e w3 ⟨⟨x, rfl, hx⟩, F3⟩
  rw [kn_texts] at hx
  obtain ⟨ax, cx, rfl, -, -, hy⟩ := hx.form
  obtain ⟨bx, ox, rfl, hz⟩ := hy (by simp)
  have ex := hz 0 _ rfl
  simp only [Nat.add_zero] at ex
  simp only [List.length_cons, List.length_nil, Nat.zero_add] at *
  have HA3 := Lib.hid (HA2.out.old (G3.trans F3))
  have HB3 := Lib.hid (HB2.out.old (G3.trans F3))
  have HG3 := Lib.hid ((HG2.out.trans G3).trans F3)
  have HEX := Lib.hid ex
  clear hx hy hz hI F3 G3 HA2 HB2 HG2
  have HC1 := Lib.hid (nameSame_any _ _ knA knB w3 HA3.out HB3.out kn_few kn_fewB (HE.out.old HG3.out))
  rw [kn_same] at HC1
  go_wp2_with fail
  refine HC1.out.mono ?_
  rintro e w4 ⟨rfl, F4⟩
  have ex4 := F4.cell HEX.out (fun h => h)
  have hq1 : (([67, 65] : List UInt8) == [67, 65]) = true := rfl
  have r1 : (1 : Int) ≤ (cA : Int) := by omega
  have HA4 := Lib.hid (HA3.out.old F4)
  have HC2 := Lib.hid (nameSame_any _ _ knA (knA.take 1) w4 HA4.out (NameAt.take HA4.out 1 (by decide) cA (by omega) HMA.out) kn_few (fun r hr => kn_few r (List.mem_of_mem_take hr)) (HE.out.old (HG3.out.trans F4)))
  rw [kn_front] at HC2
  have HG4 := Lib.hid (HG3.out.trans F4)
  clear F4 ex HC1
  go_wp2_with fail
  refine HC2.out.mono ?_
  rintro e w5 ⟨rfl, F5⟩
  go_wp2_with fail
  go_ret
  exact ⟨rfl, HG4.out.trans F5⟩
end Go.Proofs.YtgffhiopbnkjbaaGreatDoor

namespace Go.Proofs.YtgffhiopbnkjbaaGreatDoor
open Go Go.RowKit Go.Q
set_option linter.unusedSimpArgs false

set_option maxRecDepth 20000 in
theorem r02Of_any (n : Int) (w : World) :
    Calls Tryz.prog 15 #[.int .i64 n] w fun e w' => e = .returned (tagV (tagOf n)) ∧ Fr (fun _ => False) w w' := by
  rcases Classical.em (n = 16) with h | h
  case' inl => subst h
  case' inr => have h16 : (n == 16) = false := beq_eq_false_iff_ne.2 h
  case' inl =>
    go_enter Tryz.func15, Tryz.ntmps15
    go_wp2_with fail
    exact bodyPost_ret (v := tagV ⟨0, 16, true⟩) (by simp [results, Tryz.results15, go_sem, tagV]) rfl ⟨rfl, (Fr.refl w).alloc _⟩
  case' inr =>
    go_enter Tryz.func15, Tryz.ntmps15
    go_wp2_with fail
    exact bodyPost_ret (v := tagV ⟨0, n, n == 17⟩) (by simp [results, Tryz.results15, go_sem, tagV]) rfl ⟨by simp [tagOf, tagV, h16], (Fr.refl w).alloc _⟩

set_option maxRecDepth 20000 in
theorem r02Length_any (n : Nat) (hn : n ≤ 16777216) (w : World) :
    Calls Tryz.prog 51 #[.int .i64 n] w fun e w' => ∃ v, e = .returned v ∧ w'.ownsRow w.heap.size 5 1 v (lenBytes n).length (Lib.byteCells (lenBytes n)) ∧ Fr (fun _ => False) w w' := by
  have key : ∀ cs : Array Value, cs = (Lib.byteCells (lenBytes n)).toArray → (lenBytes n).length ≤ 5 → (w.alloc (.cells cs 5)).ownsRow w.heap.size 5 1 (.slice (some ⟨w.heap.size, 0, none⟩) (lenBytes n).length (lenBytes n).length) (lenBytes n).length (Lib.byteCells (lenBytes n)) ∧ Fr (fun _ => False) w (w.alloc (.cells cs 5)) := by
    rintro cs rfl h5
    exact ⟨own_bytes (Blk.new w 5 _) (by omega) _ (Nat.le_refl _), (Fr.refl w).alloc _⟩
  by_cases h1 : n < 128
  · have q1 : (n : Int) < 128 := by omega
    have hL : lenBytes n = [UInt8.ofNat n] := by simp [lenBytes, h1]
    rw [hL] at key ⊢
    have HK := Lib.hid key
    clear key hL
    go_enter Tryz.func51, Tryz.ntmps51
    go_wp2_with fail
    go_ret
    refine ⟨_, rfl, HK.out _ ?_ (by simp)⟩
    simp [Lib.byteCells, IntKind.wrap, IntKind.signed, IntKind.bits]
    try omega
  have q1 : ¬ (n : Int) < 128 := by omega
  by_cases h2 : n < 256
  · have q2 : (n : Int) < 256 := by omega
    have hL : lenBytes n = [129, UInt8.ofNat n] := by simp [lenBytes, h1, h2]
    rw [hL] at key ⊢
    have HK := Lib.hid key
    clear key hL
    go_enter Tryz.func51, Tryz.ntmps51
    go_wp2_with fail
    go_ret
    refine ⟨_, rfl, HK.out _ ?_ (by simp)⟩
    simp [Lib.byteCells, IntKind.wrap, IntKind.signed, IntKind.bits]
    try omega
  have q2 : ¬ (n : Int) < 256 := by omega
  by_cases h3 : n < 65536
  · have q3 : (n : Int) < 65536 := by omega
    have hL : lenBytes n = [130, UInt8.ofNat (n / 256), UInt8.ofNat (n % 256)] := by simp only [lenBytes, h1, h2, h3, if_true, if_false]
    rw [hL] at key ⊢
    have HK := Lib.hid key
    clear key hL
    go_enter Tryz.func51, Tryz.ntmps51
    go_wp2_with fail
    go_ret
    refine ⟨_, rfl, HK.out _ ?_ (by simp)⟩
    simp [Lib.byteCells, IntKind.wrap, IntKind.signed, IntKind.bits]
    try omega
  have q3 : ¬ (n : Int) < 65536 := by omega
  by_cases h4 : n < 16777216
  · have q4 : (n : Int) < 16777216 := by omega
    have hL : lenBytes n = [131, UInt8.ofNat (n / 65536), UInt8.ofNat (n / 256 % 256), UInt8.ofNat (n % 256)] := by simp only [lenBytes, h1, h2, h3, h4, if_true, if_false]
    rw [hL] at key ⊢
    have HK := Lib.hid key
    clear key hL
    go_enter Tryz.func51, Tryz.ntmps51
    go_wp2_with fail
    go_ret
    refine ⟨_, rfl, HK.out _ ?_ (by simp)⟩
    simp [Lib.byteCells, IntKind.wrap, IntKind.signed, IntKind.bits]
    try omega
  have q4 : ¬ (n : Int) < 16777216 := by omega
  · have hL : lenBytes n = [132, UInt8.ofNat (n / 16777216), UInt8.ofNat (n / 65536 % 256), UInt8.ofNat (n / 256 % 256), UInt8.ofNat (n % 256)] := by simp only [lenBytes, h1, h2, h3, h4, if_false]
    rw [hL] at key ⊢
    have HK := Lib.hid key
    clear key hL
    go_enter Tryz.func51, Tryz.ntmps51
    go_wp2_with fail
    go_ret
    refine ⟨_, rfl, HK.out _ ?_ (by simp)⟩
    simp [Lib.byteCells, IntKind.wrap, IntKind.signed, IntKind.bits]
    try omega

set_option maxRecDepth 20000 in
theorem r02Bytes_any (t : Tag) (h : tagGood t) (w : World) :
    Calls Tryz.prog 50 #[tagV t] w fun e w' => ∃ v, e = .returned v ∧ w'.ownsRow w.heap.size 5 1 v 1 (Lib.byteCells [tagByte t]) ∧ Fr (fun _ => False) w w' := by
  have hv := tagByte_val h
  have key : ∀ (w' : World) (cs : Array Value), cs = (Lib.byteCells [tagByte t]).toArray → Fr (fun _ => False) w w' → (w'.alloc (.cells cs 5)).ownsRow w.heap.size 5 1 (.slice (some ⟨w'.heap.size, 0, none⟩) 1 1) 1 (Lib.byteCells [tagByte t]) ∧ Fr (fun _ => False) w (w'.alloc (.cells cs 5)) := by
    rintro w' cs rfl F
    exact ⟨own_bytes (l := [tagByte t]) (Blk.new w' 5 _) (by simp) _ F.size, F.alloc _⟩
  obtain ⟨⟨h1, h2⟩, h3, h4⟩ := h
  obtain ⟨c, n, m⟩ := t
  simp only at h1 h2 h3 h4
  have HV := Lib.hid hv
  have HK := Lib.hid key
  have B := Blk.new w 36 #[.int .i64 c, .int .i64 n, .bool m]
  have F0 : Fr (fun _ => False) w (w.alloc (.cells #[.int .i64 c, .int .i64 n, .bool m] 36)) := (Fr.refl w).alloc _
  have q1 : n < 31 := h4
  clear hv key
  rw [show tagV ⟨c, n, m⟩ = .agg #[.int .i64 c, .int .i64 n, .bool m] from rfl]
  cases m
  all_goals
    go_enter Tryz.func50, Tryz.ntmps50
    go_upto_region 1 with fail
    generalize hz : w.heap.size = z at B ⊢
    have HZ := Lib.hid hz
    generalize (w.alloc (.cells _ 36)) = w0 at *
    clear hz
    have S := B.cell
    go_wp2_with fail
    go_ret
    refine ⟨_, rfl, ?_⟩
    rw [← HZ.out]
    refine HK.out _ _ ?_ F0
    have := HV.out
    simp at this
    simp [Lib.byteCells, IntKind.wrap, IntKind.signed, IntKind.bits, this]
    try omega

set_option maxRecDepth 20000 in
theorem r02Wrap_any (t : Tag) (ht : tagGood t) (v : Value) (l : List UInt8) (w : World) (hv : Bytes w v l) (hl : l.length ≤ 16777216) :
    Calls Tryz.prog 14 #[tagV t, v] w fun e w' => ∃ v', e = .returned v' ∧ w'.ownsRow w.heap.size 5 1 v' (wrapS t l).length (Lib.byteCells (wrapS t l)) ∧ Fr (fun _ => False) w w' := by
  obtain ⟨a, cap, rfl, -⟩ := hv.form
  have HB := Lib.hid hv
  have HT := Lib.hid ht
  obtain ⟨N, hN⟩ : ∃ N, N = l.length := ⟨_, rfl⟩
  have HN := Lib.hid hN
  rw [← hN] at hl ⊢
  obtain ⟨c, n, m⟩ := t
  have B := Blk.new w 36 #[.int .i64 c, .int .i64 n, .bool m]
  have F0 : Fr (fun _ => False) w (w.alloc (.cells #[.int .i64 c, .int .i64 n, .bool m] 36)) := (Fr.refl w).alloc _
  obtain ⟨z, hz⟩ : ∃ z, z = w.heap.size := ⟨_, rfl⟩
  rw [← hz] at B
  have HZ := Lib.hid hz
  clear hz hv ht hN
  rw [show tagV ⟨c, n, m⟩ = .agg #[.int .i64 c, .int .i64 n, .bool m] from rfl]
  go_enter Tryz.func14, Tryz.ntmps14
  go_upto_region 1 with fail
  rw [← HZ.out]
  generalize (w.alloc (.cells #[.int .i64 c, .int .i64 n, .bool m] 36)) = w0 at *
  have S := B.cell
  go_wp2_with fail
  refine (r02Bytes_any ⟨c, n, m⟩ HT.out w0).mono ?_
  rintro e w1 ⟨vb, rfl, hob, F1⟩
  have G1 := F0.trans F1
  have hob' := own_le hob F0.size
  obtain ⟨ab, cb, rfl, -⟩ := (Vals.of_own hob').1.form
  have HOB := Lib.hid hob'
  clear hob hob' F0 F1 B S
  go_wp2_with fail
  refine (r02Length_any N hl w1).mono ?_
  rintro e w2 ⟨vd, rfl, hod, F2⟩
  have G2 := G1.trans F2
  have hb0 : w.heap.size ≤ w2.heap.size := G2.size
  have ho1 := ownsRow_fr HOB.out F2 (fun _ _ h => h)
  have hvd := (Vals.of_own hod).1
  obtain ⟨ad, cd, rfl, -⟩ := hvd.form
  obtain ⟨v3, w3, hr3, ho3, F3, _⟩ := append_bytes ho1 ad _ cd (lenBytes N) hvd (by have := len_small N hl; simp; omega) hb0
  have hvb := (Vals.of_own ho1).2
  have G3 := G2.trans' F3 (fun i hi e => absurd hi (by have := hvb i e; omega))
  have hll : (Lib.byteCells (lenBytes N)).length = (lenBytes N).length := byteCells_len _
  obtain ⟨a3, c3, rfl, -⟩ := (Vals.of_own ho3).1
  have hb3 : w.heap.size ≤ w3.heap.size := G3.size
  obtain ⟨v4, w4, hr4, ho4, F4, _⟩ := append_bytes ho3 a _ cap l (HB.out.old G3) (by have := len_small N hl; have := HN.out; simp; omega) hb3
  have hvb4 := (Vals.of_own ho3).2
  have G4 := G3.trans' F4 (fun i hi e => absurd hi (by have := hvb4 i e; omega))
  rw [← HN.out] at hr4 ho4
  have HO4 := Lib.hid ho4
  have HG4 := Lib.hid G4
  clear hod G2 ho1 hvd ho3 F3 hvb G3 F2 F4 hvb4 G4 ho4
  generalize (Lib.byteCells ([tagByte ⟨c, n, m⟩] ++ lenBytes N)).length = L3 at *
  go_wp2_with (at_builtin; first
    | refine wpList_append_run (by rfl) (.tmp 7) (.tmp 10) 23 (by rfl) _ w3 (by exact hr3) ?_
    | refine wpList_append_run (by rfl) (.tmp 12) (.tmp 13) 23 (by rfl) _ w4 (by exact hr4) ?_)
  go_ret
  refine ⟨_, rfl, ?_, HG4.out⟩
  have := HO4.out
  have e : wrapS ⟨c, n, m⟩ l = [tagByte ⟨c, n, m⟩] ++ lenBytes N ++ l := by rw [wrapS, ← HN.out]; simp
  rw [wrap_len, ← HN.out, e]
  exact this
end Go.Proofs.YtgffhiopbnkjbaaGreatDoor

namespace Go.Q
open Go Go.RowKit
/-- A name of one part in two blocks. -/
theorem NameAt.of_blocks {w : World} {g1 g2 : Nat} {x y : Value} {p : Part} (B1 : Blk w g1 39 #[x, y]) (B2 : Blk w g2 41 #[.slice (some ⟨g1, 0, none⟩) 1 1]) (hx : Vals w x (intCells p.o)) (hy : Bytes w y p.b) : NameAt w (.slice (some ⟨g2, 0, none⟩) 1 1) [[p]] :=
  ⟨_, 1, rfl, Nat.le_refl _, by unfold maxLen; omega, fun _ => ⟨g2, 0, rfl, fun i r hr => by
    match i, hr with
    | 0, hr =>
      simp only [List.getElem?_cons_zero, Option.some.injEq] at hr
      subst hr
      exact ⟨_, B2.cell 0, Attrs.of_block B1 hx hy⟩
    | i + 1, hr => simp at hr⟩⟩
end Go.Q
namespace Go.Proofs.YtgffhiopbnkjbaaGreatDoor
open Go Go.RowKit Go.Q

set_option maxRecDepth 20000 in
set_option maxHeartbeats 2000000 in
theorem nkOne_any (o : List Int) (k : Int) (b : List UInt8) (vo vb : Value) (w : World) (ho : Ints w vo o) (hb : Bytes w vb b) (hk : Go.Q.kindOk k = true) (hl : b.length ≤ 10000) :
    Calls Tryz.prog 13 #[vo, .agg #[.int .i64 k, vb]] w fun e w' => ∃ v, e = .returned v ∧ NameAt w' v (oneN o (wrapS (tagOf k) b)) ∧ Fr (fun _ => False) w w' := by
  obtain ⟨ao, co, rfl, -⟩ := Ints.form ho
  obtain ⟨ab, cb, rfl, -⟩ := hb.form
  obtain ⟨z, hz⟩ : ∃ z, z = w.heap.size := ⟨_, rfl⟩
  have B := Blk.new w 25 #[.int .i64 k, .slice ab b.length cb]
  have F0 : Fr (fun _ => False) w (w.alloc (.cells #[.int .i64 k, .slice ab b.length cb] 25)) := (Fr.refl w).alloc _
  rw [← hz] at B
  have HZ := Lib.hid hz
  have hkg : tagGood (tagOf k) := (kind_tag hk).1
  have HG := Lib.hid hkg
  have HO := Lib.hid ho
  have HB := Lib.hid hb
  clear ho hb hz hkg
  go_enter Tryz.func13, Tryz.ntmps13
  go_upto_region 1 with fail
  rw [← HZ.out]
  generalize (w.alloc (.cells #[.int .i64 k, .slice ab b.length cb] 25)) = w0 at *
  have HF0 := Lib.hid F0
  have G : Fr (fun _ => False) w w0.drew := F0.drew
  replace B := B.drew
  clear F0
  go_region_held3 (fun w' => ∀ j, w'.cell? ⟨z, j, none⟩ = (#[.int .i64 k, .slice ab b.length cb] : Array Value)[j]?) (first | exact B.cell | exact (B.alloc _).cell | exact ((B.alloc _).alloc _).cell) (first
    | (go_at_call 15; refine (r02Of_any k _).mono ?_; rintro e w' ⟨rfl, F⟩; replace B := B.fr F (fun h => h); replace G := G.trans F)
    | (go_at_call 14; refine (r02Wrap_any (tagOf k) HG.out (.slice ab b.length cb) b _ (HB.out.old G) (by omega)).mono ?_; rintro e w' ⟨v, rfl, hv, F⟩; obtain ⟨av, mv, cv, rfl, rfl⟩ := own_shape hv; replace B := B.fr F (fun h => h); replace G := G.trans F))
  all_goals
    have G2 := (G.alloc (.cells #[.slice ao o.length co, .slice av (wrapS (tagOf k) b).length cv] 39)).alloc (.cells #[.slice (some ⟨w'.heap.size, 0, none⟩) 1 1] 41)
    have B1 := (Blk.new w' 39 #[.slice ao o.length co, .slice av (wrapS (tagOf k) b).length cv]).alloc (.cells #[.slice (some ⟨w'.heap.size, 0, none⟩) 1 1] 41)
    have B2 := Blk.new (w'.alloc (.cells #[.slice ao o.length co, .slice av (wrapS (tagOf k) b).length cv] 39)) 41 #[.slice (some ⟨w'.heap.size, 0, none⟩) 1 1]
    have F2 : Fr (fun _ => False) w' _ := ((Fr.refl w').alloc (.cells #[.slice ao o.length co, .slice av (wrapS (tagOf k) b).length cv] 39)).alloc (.cells #[.slice (some ⟨w'.heap.size, 0, none⟩) 1 1] 41)
    have hN := NameAt.of_blocks (p := ⟨o, wrapS (tagOf k) b⟩) B1 B2 (HO.out.old G2) ((Vals.of_own hv).1.old F2)
    rw [World.size_alloc] at hN
    go_wp2_with fail
    go_ret
    exact ⟨_, rfl, hN, G2⟩
end Go.Proofs.YtgffhiopbnkjbaaGreatDoor

namespace Go.Proofs.YtgffhiopbnkjbaaGreatDoor
open Go Go.RowKit Go.Q

set_option maxRecDepth 20000 in
set_option maxHeartbeats 1000000 in
theorem r04Right_any (v : Value) (o : List Int) (w : World) (h : Ints w v o) :
    Calls Tryz.prog 11 #[v] w fun e w' => e = .returned (.bool (oidOk o)) ∧ w = w' := by
  obtain ⟨a, cap, rfl, hc, hm, hx⟩ := Ints.form h
  have HX := Lib.hid hx
  clear h hx
  rcases Classical.em (2 ≤ o.length ∧ o.length ≤ 32) with hl | hl
  · obtain ⟨hl1, hl2⟩ := hl
    have q1 : decide ((o.length : Int) < 2) = false := decide_eq_false (by omega)
    have q2 : decide ((32 : Int) < (o.length : Int)) = false := decide_eq_false (by omega)
    go_enter Tryz.func11, Tryz.ntmps11
    go_wp2_with fail
    go_loopg [3] o.length (fun g i wr => ∃ j : Nat, g = o.length - j ∧ j ≤ o.length ∧ i = .int .i64 j ∧ (o.take j).all arcOk = true ∧ wr = w)
    case atStart => exact ⟨0, rfl, by omega, rfl, rfl, rfl⟩
    case round =>
      obtain ⟨j, hg, hj, rfl, hall, rfl⟩ := hrel
      have HG := Lib.hid hg
      have HA := Lib.hid hall
      clear hg hall
      obtain ⟨b, off, rfl, hy⟩ := HX.out (by omega)
      by_cases hjl : j < o.length
      · obtain ⟨x, hxj⟩ : ∃ x, o[j]? = some x := ⟨_, List.getElem?_eq_getElem hjl⟩
        have ex := hy j x hxj
        have hat : (o.take (j + 1)).all arcOk = ((o.take j).all arcOk && arcOk x) := by
          rw [List.take_add_one, hxj]
          simp
        have HAT := Lib.hid hat
        have q3 : (0 : Int) ≤ (j : Int) := by omega
        have q4 : (j : Int) < (o.length : Int) := by omega
        have hbad : arcOk x = false → oidOk o = false := fun hb => by
          have : o.all arcOk = false := by
            rw [List.all_eq_false]
            exact ⟨x, List.mem_of_getElem? hxj, by simp [hb]⟩
          simp [oidOk, this]
        have HB := Lib.hid hbad
        clear hy hxj hat hbad
        rcases Classical.em (x < 0) with h0 | h0
        · have q5 : decide (x < 0) = true := decide_eq_true h0
          go_wp2_with fail
          go_ret
          exact ⟨by rw [HB.out (by simp [arcOk]; omega)]; rfl, rfl⟩
        · have q5 : decide (x < 0) = false := decide_eq_false h0
          rcases Classical.em ((2147483647 : Int) < x) with h1 | h1
          · have q6 : decide ((2147483647 : Int) < x) = true := decide_eq_true h1
            go_wp2_with fail
            go_ret
            exact ⟨by rw [HB.out (by simp [arcOk]; omega)]; rfl, rfl⟩
          · have q6 : decide ((2147483647 : Int) < x) = false := decide_eq_false h1
            go_wp2_with fail
            go_roundg (o.length - (j + 1))
            case measure => rw [HG.out]; omega
            case rel => exact ⟨j + 1, rfl, by omega, by go_num, by rw [HAT.out, HA.out]; simp [arcOk]; omega, rfl⟩
      · have hall : o.all arcOk = true := by
          have := HA.out
          rwa [List.take_of_length_le (by omega)] at this
        obtain ⟨x0, hx0⟩ : ∃ x, o[0]? = some x := ⟨_, List.getElem?_eq_getElem (by omega)⟩
        obtain ⟨x1, hx1⟩ : ∃ x, o[1]? = some x := ⟨_, List.getElem?_eq_getElem (by omega)⟩
        have e0 := hy 0 x0 hx0
        have e1 := hy 1 x1 hx1
        have hE : oidOk o = twoOk x0 x1 := by
          simp [oidOk, hall, hl1, hl2, List.getD, hx0, hx1]
        have hp0 : 0 ≤ x0 := by
          have := List.all_eq_true.1 hall x0 (List.mem_of_getElem? hx0)
          simp only [arcOk, decide_eq_true_eq] at this
          exact this.1
        have HE := Lib.hid hE
        have z1 : (1 : Int) < (o.length : Int) := by omega
        have z0 : (0 : Int) < (o.length : Int) := by omega
        simp only [Nat.add_zero] at e0
        clear hy hx0 hx1 hall hE HA HX
        by_cases h2 : x0 < 2
        · by_cases h40 : x1 < 40
          · have hv : twoOk x0 x1 = true := by unfold twoOk; rw [decide_eq_true (show x0 = 0 ∨ x0 = 1 by omega), decide_eq_true h40]; rfl
            have HV := Lib.hid hv
            clear hv
            go_wp2_with fail
            go_ret
            exact ⟨by rw [HE.out, HV.out]; rfl, rfl⟩
          · have hv : twoOk x0 x1 = false := by unfold twoOk; rw [decide_eq_false h40, decide_eq_false (show ¬ x0 = 2 by omega), Bool.and_false]; rfl
            have HV := Lib.hid hv
            have p2 : (x0 == 2) = false := beq_eq_false_iff_ne.2 (by omega)
            clear hv
            go_wp2_with fail
            go_ret
            exact ⟨by rw [HE.out, HV.out]; rfl, rfl⟩
        · by_cases h22 : x0 = 2
          · subst h22
            by_cases hm1 : x1 ≤ 2147483567
            · have hv : twoOk 2 x1 = true := by unfold twoOk; rw [decide_eq_true hm1]; simp
              have HV := Lib.hid hv
              clear hv
              go_wp2_with fail
              go_ret
              exact ⟨by rw [HE.out, HV.out]; rfl, rfl⟩
            · have hv : twoOk 2 x1 = false := by unfold twoOk; rw [decide_eq_false hm1]; simp
              have HV := Lib.hid hv
              clear hv
              go_wp2_with fail
              go_ret
              exact ⟨by rw [HE.out, HV.out]; rfl, rfl⟩
          · have hv : twoOk x0 x1 = false := by unfold twoOk; rw [decide_eq_false h22, decide_eq_false (show ¬ (x0 = 0 ∨ x0 = 1) by omega)]; rfl
            have HV := Lib.hid hv
            have p2 : (x0 == 2) = false := beq_eq_false_iff_ne.2 h22
            clear hv
            go_wp2_with fail
            go_ret
            exact ⟨by rw [HE.out, HV.out]; rfl, rfl⟩
  · have hE : oidOk o = false := by simp [oidOk]; omega
    have HE := Lib.hid hE
    rcases Classical.em (o.length < 2) with h2 | h2
    case' inl => have q1 : decide ((o.length : Int) < 2) = true := decide_eq_true (by omega)
    case' inr =>
      have q1 : decide ((o.length : Int) < 2) = false := decide_eq_false (by omega)
      have q2 : decide ((32 : Int) < (o.length : Int)) = true := decide_eq_true (by omega)
    all_goals
      clear hE
      go_enter Tryz.func11, Tryz.ntmps11
      go_wp2_with fail
      go_ret
      exact ⟨by rw [HE.out]; rfl, rfl⟩

set_option maxRecDepth 20000 in
set_option maxHeartbeats 1000000 in
theorem r04Compare_any (v u : Value) (o p : List Int) (w : World) (h : Ints w v o) (hu : Ints w u p) :
    Calls Tryz.prog 52 #[v, u] w fun e w' => e = .returned (.int .i64 (cmpI o p)) ∧ Fr (fun _ => False) w w' := by
  obtain ⟨a, cap, rfl, hc1, hm1, hx⟩ := Ints.form h
  obtain ⟨b, cbp, rfl, hc2, hm2, hy⟩ := Ints.form hu
  have HX := Lib.hid hx
  have HY := Lib.hid hy
  unfold maxLen at hm1 hm2
  clear h hu hx hy
  go_enter Tryz.func52, Tryz.ntmps52
  go_wp2_with fail
  go_loopg [5] (o.length + p.length) (fun g i wr => ∃ j : Nat, g = o.length + p.length - j ∧ j ≤ o.length ∧ j ≤ p.length ∧ i = .int .i64 j ∧ cmpI o p = cmpI (o.drop j) (p.drop j) ∧ Fr (fun _ => False) w wr)
  case atStart => exact ⟨0, rfl, Nat.zero_le _, Nat.zero_le _, rfl, rfl, Fr.refl _⟩
  case round =>
    obtain ⟨j, hg, hj, hjp, rfl, hE, F⟩ := hrel
    have HG := Lib.hid hg
    have HE := Lib.hid hE
    have HF := Lib.hid F
    clear hg hE
    by_cases hjl : j < o.length
    · obtain ⟨ba, oa, rfl, ha⟩ := HX.out (by omega)
      obtain ⟨x, hxj⟩ : ∃ x, o[j]? = some x := ⟨_, List.getElem?_eq_getElem hjl⟩
      have e1 := F.cell (ha j x hxj) (fun h => h)
      have r1 : (0 : Int) ≤ (j : Int) := by omega
      have r2 : (j : Int) < (o.length : Int) := by omega
      have r5 : decide ((o.length : Int) ≤ (j : Int)) = false := decide_eq_false (by omega)
      have r5N : decide (o.length ≤ j) = false := decide_eq_false (by omega)
      have r5' : decide ((j : Int) < (o.length : Int)) = true := decide_eq_true (by omega)
      have r5'N : decide (j < o.length) = true := decide_eq_true (by omega)
      by_cases hjl2 : j < p.length
      · obtain ⟨bb, ob, rfl, hb⟩ := HY.out (by omega)
        obtain ⟨y, hyj⟩ : ∃ y, p[j]? = some y := ⟨_, List.getElem?_eq_getElem hjl2⟩
        have e2 := F.cell (hb j y hyj) (fun h => h)
        have r4 : (j : Int) < (p.length : Int) := by omega
        have r3 : decide ((p.length : Int) ≤ (j : Int)) = false := decide_eq_false (by omega)
        have r3N : decide (p.length ≤ j) = false := decide_eq_false (by omega)
        have r4' : decide ((j : Int) < (p.length : Int)) = true := decide_eq_true (by omega)
        have r4'N : decide (j < p.length) = true := decide_eq_true (by omega)
        have hcd := Lib.hid (cmpI_drop hxj hyj)
        clear ha hb hxj hyj F
        by_cases h1 : x < y
        · have hres : cmpI o p = -1 := by rw [HE.out, hcd.out, if_pos h1]
          have HRES := Lib.hid hres
          have q1 : decide (x < y) = true := decide_eq_true h1
          clear hres
          go_wp2_with fail
          go_quiet (fail)
          go_wp2_with fail
          go_ret
          refine ⟨by rw [HRES.out]; rfl, ?_⟩; (first | with_reducible exact HF.out | with_reducible exact Fr.drewN HF.out _ | with_reducible exact Fr.drewN (Fr.drewN HF.out _) _ | with_reducible exact Fr.drewN (Fr.drewN (Fr.drewN HF.out _) _) _)
        · have q1 : decide (x < y) = false := decide_eq_false h1
          by_cases h2 : y < x
          · have hres : cmpI o p = 1 := by rw [HE.out, hcd.out, if_neg h1, if_pos h2]
            have HRES := Lib.hid hres
            have q2 : decide (y < x) = true := decide_eq_true h2
            clear hres
            go_wp2_with fail
            go_quiet (fail)
            go_wp2_with fail
            go_quiet (fail)
            go_wp2_with fail
            go_ret
            refine ⟨by rw [HRES.out]; rfl, ?_⟩; (first | with_reducible exact HF.out | with_reducible exact Fr.drewN HF.out _ | with_reducible exact Fr.drewN (Fr.drewN HF.out _) _ | with_reducible exact Fr.drewN (Fr.drewN (Fr.drewN HF.out _) _) _)
          · have hres : cmpI o p = cmpI (o.drop (j + 1)) (p.drop (j + 1)) := by rw [HE.out, hcd.out, if_neg h1, if_neg h2]
            have HRES := Lib.hid hres
            have q2 : decide (y < x) = false := decide_eq_false h2
            clear hres
            go_wp2_with fail
            go_quiet (fail)
            go_wp2_with fail
            go_quiet (fail)
            go_wp2_with fail
            go_roundg (o.length + p.length - (j + 1))
            case measure => rw [HG.out]; omega
            case rel => refine ⟨j + 1, rfl, by omega, by omega, by go_num, HRES.out, ?_⟩; (first | with_reducible exact HF.out | with_reducible exact Fr.drewN HF.out _ | with_reducible exact Fr.drewN (Fr.drewN HF.out _) _ | with_reducible exact Fr.drewN (Fr.drewN (Fr.drewN HF.out _) _) _)
      · have r3 : decide ((p.length : Int) ≤ (j : Int)) = true := decide_eq_true (by omega)
        have r3N : decide (p.length ≤ j) = true := decide_eq_true (by omega)
        have r4 : decide ((j : Int) < (p.length : Int)) = false := decide_eq_false (by omega)
        have r4N : decide (j < p.length) = false := decide_eq_false (by omega)
        have hres : cmpI o p = 1 := by
          have h1 : o.drop j = x :: o.drop (j + 1) := by
            obtain ⟨h, rfl⟩ := List.getElem?_eq_some_iff.1 hxj
            exact List.drop_eq_getElem_cons h
          have h2 : p.drop j = [] := List.drop_eq_nil_of_le (by omega)
          rw [HE.out, h1, h2]
          rfl
        have HRES := Lib.hid hres
        clear hres ha hxj F
        go_wp2_with fail
        go_quiet (fail)
        go_wp2_with fail
        go_quiet (fail)
        go_wp2_with fail
        go_ret
        refine ⟨by rw [HRES.out]; rfl, ?_⟩; (first | with_reducible exact HF.out | with_reducible exact Fr.drewN HF.out _ | with_reducible exact Fr.drewN (Fr.drewN HF.out _) _ | with_reducible exact Fr.drewN (Fr.drewN (Fr.drewN HF.out _) _) _)
    · obtain rfl : j = o.length := by omega
      have h1 : o.drop o.length = [] := List.drop_length
      have r5 : decide ((o.length : Int) ≤ (o.length : Int)) = true := decide_eq_true (by omega)
      have r5N : decide (o.length ≤ o.length) = true := decide_eq_true (by omega)
      by_cases hlt : o.length < p.length
      · have r3 : (o.length : Int) < (p.length : Int) := by omega
        have r3N : decide (o.length < p.length) = true := decide_eq_true hlt
        have hres : cmpI o p = -1 := by
          rw [HE.out, h1]
          have : p.drop o.length ≠ [] := fun e => by have := drop_nil e; omega
          cases hd : p.drop o.length with
          | nil => exact absurd hd this
          | cons y t => rfl
        have HRES := Lib.hid hres
        clear hres h1 F
        go_wp2_with fail
        go_quiet (fail)
        go_wp2_with fail
        go_ret
        refine ⟨by rw [HRES.out]; rfl, ?_⟩; (first | with_reducible exact HF.out | with_reducible exact Fr.drewN HF.out _ | with_reducible exact Fr.drewN (Fr.drewN HF.out _) _ | with_reducible exact Fr.drewN (Fr.drewN (Fr.drewN HF.out _) _) _)
      · have r3 : ¬ (o.length : Int) < (p.length : Int) := by omega
        have r3N : decide (o.length < p.length) = false := decide_eq_false hlt
        have hres : cmpI o p = 0 := by
          have h2 : p.drop o.length = [] := List.drop_eq_nil_of_le (by omega)
          rw [HE.out, h1, h2]
          rfl
        have HRES := Lib.hid hres
        clear hres h1
        go_wp2_with fail
        go_ret
        exact ⟨by rw [HRES.out]; rfl, F⟩

theorem r04Same_any (v u : Value) (o p : List Int) (w : World) (h : Ints w v o) (hu : Ints w u p) :
    Calls Tryz.prog 17 #[v, u] w fun e w' => e = .returned (.bool (decide (o = p))) ∧ Fr (fun _ => False) w w' := by
  have H := Lib.hid (r04Compare_any v u o p w h hu)
  clear h hu
  have hq : (cmpI o p == 0) = decide (o = p) := by
    rw [Bool.eq_iff_iff]
    simp [cmpI_zero]
  have HQ := Lib.hid hq
  clear hq
  generalize cmpI o p = c at *
  go_enter Tryz.func17, Tryz.ntmps17
  go_wp2_with fail
  refine H.out.mono ?_
  rintro e w' ⟨rfl, F⟩
  go_wp2_with fail
  go_ret
  exact ⟨by rw [← HQ.out]; rfl, F⟩
end Go.Proofs.YtgffhiopbnkjbaaGreatDoor

namespace Go.Q
open Go Go.RowKit
def amongB (n : Int) (l : List UInt8) : Bool := l.any fun x => (x.toNat : Int) == n
theorem among_take {n : Int} {l : List UInt8} {j : Nat} {x : UInt8} (h : l[j]? = some x) : amongB n (l.take (j + 1)) = (amongB n (l.take j) || ((x.toNat : Int) == n)) := by
  unfold amongB
  rw [List.take_add_one, h]
  simp
theorem among_mem {n : Int} {l : List UInt8} {j : Nat} {x : UInt8} (h : l[j]? = some x) (hx : ((x.toNat : Int) == n) = true) : amongB n l = true :=
  List.any_eq_true.2 ⟨x, List.mem_of_getElem? h, hx⟩
abbrev printL : List UInt8 := [97, 98, 99, 100, 101, 102, 103, 104, 105, 106, 107, 108, 109, 110, 111, 112, 113, 114, 115, 116, 117, 118, 119, 120, 121, 122, 65, 66, 67, 68, 69, 70, 71, 72, 73, 74, 75, 76, 77, 78, 79, 80, 81, 82, 83, 84, 85, 86, 87, 88, 89, 90, 48, 49, 50, 51, 52, 53, 54, 55, 56, 57, 32, 39, 40, 41, 43, 44, 45, 46, 47, 58, 61, 63]
set_option maxRecDepth 100000 in
theorem among_small : ∀ m : Fin 256, amongB (m.val : Int) printL = printables.contains (UInt8.ofNat m.val) := by decide +kernel
theorem among_may (n : Int) : amongB n printL = mayS 19 n := by
  simp only [mayS, show ¬ ((19 : Int) = 12) from by decide, if_false, if_true]
  by_cases h : 0 ≤ n ∧ n < 256
  · obtain ⟨m, rfl⟩ : ∃ m : Nat, n = m := ⟨n.toNat, by omega⟩
    have := among_small ⟨m, by omega⟩
    simp only at this
    rw [this, decide_eq_true h, Bool.true_and, Int.toNat_natCast]
  · rw [decide_eq_false h, Bool.false_and, amongB, List.any_eq_false]
    intro x _
    have := x.toNat_lt
    simp only [beq_iff_eq]
    omega
end Go.Q
namespace Go.Proofs.YtgffhiopbnkjbaaGreatDoor
open Go Go.RowKit Go.Q

set_option maxRecDepth 20000 in
theorem r06Kind_any (k : Int) (w : World) :
    Calls Tryz.prog 47 #[.int .i64 k] w fun e w' => e = .returned (.bool (Go.Q.kindOk k)) ∧ w = w' := by
  by_cases h1 : k = 12
  · subst h1
    go_enter Tryz.func47, Tryz.ntmps47
    go_wp2_with fail
    go_ret
    exact ⟨rfl, rfl⟩
  by_cases h2 : k = 19
  · subst h2
    go_enter Tryz.func47, Tryz.ntmps47
    go_wp2_with fail
    go_ret
    exact ⟨rfl, rfl⟩
  by_cases h3 : k = 20
  · subst h3
    go_enter Tryz.func47, Tryz.ntmps47
    go_wp2_with fail
    go_ret
    exact ⟨rfl, rfl⟩
  by_cases h4 : k = 22
  · subst h4
    go_enter Tryz.func47, Tryz.ntmps47
    go_wp2_with fail
    go_ret
    exact ⟨rfl, rfl⟩
  by_cases h5 : k = 26
  · subst h5
    go_enter Tryz.func47, Tryz.ntmps47
    go_wp2_with fail
    go_ret
    exact ⟨rfl, rfl⟩
  have hk : Go.Q.kindOk k = (k == 30) := by
    unfold Go.Q.kindOk
    rw [Bool.eq_iff_iff, decide_eq_true_eq, beq_iff_eq]
    omega
  have HK := Lib.hid hk
  have q1 : (k == 12) = false := beq_eq_false_iff_ne.2 h1
  have q2 : (k == 19) = false := beq_eq_false_iff_ne.2 h2
  have q3 : (k == 20) = false := beq_eq_false_iff_ne.2 h3
  have q4 : (k == 22) = false := beq_eq_false_iff_ne.2 h4
  have q5 : (k == 26) = false := beq_eq_false_iff_ne.2 h5
  clear hk
  go_enter Tryz.func47, Tryz.ntmps47
  go_wp2_with fail
  go_ret
  exact ⟨by rw [HK.out]; rfl, rfl⟩

set_option maxRecDepth 20000 in
theorem r06among_any (n : Int) (l : List UInt8) (w : World) (hl : l.length ≤ 1099511627776) :
    Calls Tryz.prog 84 #[.int .i64 n, str l] w fun e w' => e = .returned (.bool (amongB n l)) ∧ w = w' := by
  have hsz : (ByteArray.mk l.toArray).size = l.length := by simp [ByteArray.size]
  go_enter Tryz.func84, Tryz.ntmps84
  go_wp2_with fail
  go_loopg [5] l.length (fun g i wr => ∃ j : Nat, g = l.length - j ∧ j ≤ l.length ∧ i = .int .i64 j ∧ amongB n (l.take j) = false ∧ wr = w)
  case atStart => exact ⟨0, rfl, Nat.zero_le _, rfl, rfl, rfl⟩
  case round =>
    obtain ⟨j, hg, hj, rfl, hall, rfl⟩ := hrel
    have HG := Lib.hid hg
    have HA := Lib.hid hall
    clear hg hall
    by_cases hjl : j < l.length
    · obtain ⟨x, hxj⟩ : ∃ x, l[j]? = some x := ⟨_, List.getElem?_eq_getElem hjl⟩
      have hix : ∀ w, (Instr.index 9 (str l) (.int .i64 j)).run Tryz.prog w = .ok (.int .u8 x.toNat) w := fun w => by
        rw [run_index_string w 9 _ .i64 j Tryz.underlying9, dif_pos ⟨by omega, by rw [hsz]; omega⟩]
        obtain ⟨h, rfl⟩ := List.getElem?_eq_some_iff.1 hxj
        simp [ByteArray.getElem_eq_getElem_data]
      have q2 : (j : Int) < (l.length : Int) := by omega
      have HT := Lib.hid (among_take (n := n) hxj)
      have HM := Lib.hid (fun h => among_mem (n := n) hxj h)
      clear hxj
      have hy0 : (0 : Int) ≤ (x.toNat : Int) := by omega
      have hy1 : (x.toNat : Int) < 256 := by have := x.toNat_lt; omega
      have hyw : wrap64 (x.toNat : Int) = (x.toNat : Int) := by unfold wrap64; omega
      generalize (x.toNat : Int) = y at *
      rcases Bool.eq_false_or_eq_true (y == n) with h | h
      · go_wp2_with fail
        go_ret
        exact ⟨by rw [HM.out h]; rfl, rfl⟩
      · go_wp2_with fail
        go_roundg (l.length - (j + 1))
        case measure => rw [HG.out]; omega
        case rel => exact ⟨j + 1, rfl, by omega, by go_num, by rw [HT.out, HA.out, h]; rfl, rfl⟩
    · have q2 : ¬ (j : Int) < (l.length : Int) := by omega
      have hA : amongB n l = false := by
        have := HA.out
        rwa [List.take_of_length_le (by omega)] at this
      have HAA := Lib.hid hA
      clear hA
      go_wp2_with fail
      go_ret
      exact ⟨by rw [HAA.out]; rfl, rfl⟩

set_option maxRecDepth 20000 in
theorem r06May_any (k n : Int) (w : World) :
    Calls Tryz.prog 49 #[.int .i64 k, .int .i64 n] w fun e w' => e = .returned (.bool (mayS k n)) ∧ w = w' := by
  by_cases h1 : n < 0
  · have hm : mayS k n = false := by
      unfold mayS
      rw [decide_eq_false (by omega : ¬ (0 ≤ n ∧ n ≤ 1114111)), decide_eq_false (by omega : ¬ (0 ≤ n ∧ n < 256)), decide_eq_false (by omega : ¬ (0 ≤ n ∧ n ≤ 255)), decide_eq_false (by omega : ¬ (0 ≤ n ∧ n < 128)), decide_eq_false (by omega : ¬ (32 ≤ n ∧ n ≤ 126)), decide_eq_false (by omega : ¬ (0 ≤ n ∧ n ≤ 65535))]
      simp
    have HM := Lib.hid hm
    have q : decide (n < 0) = true := decide_eq_true h1
    clear hm
    go_enter Tryz.func49, Tryz.ntmps49
    go_wp2_with fail
    go_ret
    exact ⟨by rw [HM.out]; rfl, rfl⟩
  have q1 : decide (n < 0) = false := decide_eq_false h1
  by_cases h2 : (1114111 : Int) < n
  · have hm : mayS k n = false := by
      unfold mayS
      rw [decide_eq_false (by omega : ¬ (0 ≤ n ∧ n ≤ 1114111)), decide_eq_false (by omega : ¬ (0 ≤ n ∧ n < 256)), decide_eq_false (by omega : ¬ (0 ≤ n ∧ n ≤ 255)), decide_eq_false (by omega : ¬ (0 ≤ n ∧ n < 128)), decide_eq_false (by omega : ¬ (32 ≤ n ∧ n ≤ 126)), decide_eq_false (by omega : ¬ (0 ≤ n ∧ n ≤ 65535))]
      simp
    have HM := Lib.hid hm
    have q : decide ((1114111 : Int) < n) = true := decide_eq_true h2
    clear hm
    go_enter Tryz.func49, Tryz.ntmps49
    go_wp2_with fail
    go_ret
    exact ⟨by rw [HM.out]; rfl, rfl⟩
  have q2 : decide ((1114111 : Int) < n) = false := decide_eq_false h2
  by_cases h3 : 55296 ≤ n ∧ n ≤ 57343
  · have hm : mayS k n = false := by
      unfold mayS surr
      rw [decide_eq_true h3, decide_eq_false (by omega : ¬ (0 ≤ n ∧ n < 256)), decide_eq_false (by omega : ¬ (0 ≤ n ∧ n ≤ 255)), decide_eq_false (by omega : ¬ (0 ≤ n ∧ n < 128)), decide_eq_false (by omega : ¬ (32 ≤ n ∧ n ≤ 126))]
      simp
    have HM := Lib.hid hm
    have q3 : decide ((55296 : Int) ≤ n) = true := decide_eq_true h3.1
    have q4 : decide (n ≤ 57343) = true := decide_eq_true h3.2
    clear hm
    go_enter Tryz.func49, Tryz.ntmps49
    go_wp2_with fail
    go_ret
    exact ⟨by rw [HM.out]; rfl, rfl⟩
  have hs : surr n = false := decide_eq_false h3
  have hN : (decide ((55296 : Int) ≤ n) = false) ∨ (decide ((55296 : Int) ≤ n) = true ∧ decide (n ≤ 57343) = false) := by
    by_cases h : (55296 : Int) ≤ n
    · exact .inr ⟨decide_eq_true h, decide_eq_false (by omega)⟩
    · exact .inl (decide_eq_false h)
  by_cases k12 : k = 12
  · subst k12
    have hm : mayS 12 n = true := by
      simp only [mayS, if_true, hs]
      rw [decide_eq_true (by omega)]
      rfl
    have HM := Lib.hid hm
    clear hm hs
    rcases hN with q3 | ⟨q3, q4⟩
    all_goals
      go_enter Tryz.func49, Tryz.ntmps49
      go_wp2_with fail
      go_ret
      exact ⟨by rw [HM.out]; rfl, rfl⟩
  have p1 : (k == 12) = false := beq_eq_false_iff_ne.2 k12
  by_cases k19 : k = 19
  · subst k19
    have H := Lib.hid (r06among_any n printL)
    have hm := among_may n
    have HM := Lib.hid hm
    clear hm hs
    rcases hN with q3 | ⟨q3, q4⟩
    all_goals
      go_enter Tryz.func49, Tryz.ntmps49
      go_wp2_with fail
      refine (H.out _ (by decide)).mono ?_
      rintro e w' ⟨rfl, rfl⟩
      go_wp2_with fail
      go_ret
      exact ⟨by rw [← HM.out]; rfl, rfl⟩
  have p2 : (k == 19) = false := beq_eq_false_iff_ne.2 k19
  by_cases k20 : k = 20
  · subst k20
    have hm : mayS 20 n = decide (n < 256) := by
      simp only [mayS, show ¬ ((20 : Int) = 12) from by decide, show ¬ ((20 : Int) = 19) from by decide, if_false, if_true]
      rw [decide_eq_decide]
      omega
    have HM := Lib.hid hm
    clear hm hs
    rcases hN with q3 | ⟨q3, q4⟩
    all_goals
      go_enter Tryz.func49, Tryz.ntmps49
      go_wp2_with fail
      go_ret
      exact ⟨by rw [HM.out]; rfl, rfl⟩
  have p3 : (k == 20) = false := beq_eq_false_iff_ne.2 k20
  by_cases k22 : k = 22
  · subst k22
    have hm : mayS 22 n = decide (n < 128) := by
      simp only [mayS, show ¬ ((22 : Int) = 12) from by decide, show ¬ ((22 : Int) = 19) from by decide, show ¬ ((22 : Int) = 20) from by decide, if_false, if_true]
      rw [decide_eq_decide]
      omega
    have HM := Lib.hid hm
    clear hm hs
    rcases hN with q3 | ⟨q3, q4⟩
    all_goals
      go_enter Tryz.func49, Tryz.ntmps49
      go_wp2_with fail
      go_ret
      exact ⟨by rw [HM.out]; rfl, rfl⟩
  have p4 : (k == 22) = false := beq_eq_false_iff_ne.2 k22
  by_cases k26 : k = 26
  · subst k26
    have hm : mayS 26 n = (decide ((31 : Int) < n) && decide (n < 127)) := by
      simp only [mayS, show ¬ ((26 : Int) = 12) from by decide, show ¬ ((26 : Int) = 19) from by decide, show ¬ ((26 : Int) = 20) from by decide, show ¬ ((26 : Int) = 22) from by decide, if_false, if_true]
      rw [← Bool.decide_and, decide_eq_decide]
      omega
    have HM := Lib.hid hm
    clear hm hs
    by_cases h31 : (31 : Int) < n
    · have p31 : decide ((31 : Int) < n) = true := decide_eq_true h31
      rcases hN with q3 | ⟨q3, q4⟩
      all_goals
        go_enter Tryz.func49, Tryz.ntmps49
        go_wp2_with fail
        go_ret
        exact ⟨by rw [HM.out, p31]; rfl, rfl⟩
    · have p31 : decide ((31 : Int) < n) = false := decide_eq_false h31
      rcases hN with q3 | ⟨q3, q4⟩
      all_goals
        go_enter Tryz.func49, Tryz.ntmps49
        go_wp2_with fail
        go_ret
        exact ⟨by rw [HM.out, p31]; rfl, rfl⟩
  have p5 : (k == 26) = false := beq_eq_false_iff_ne.2 k26
  by_cases k30 : k = 30
  · subst k30
    have hm : mayS 30 n = decide (n < 65536) := by
      simp only [mayS, show ¬ ((30 : Int) = 12) from by decide, show ¬ ((30 : Int) = 19) from by decide, show ¬ ((30 : Int) = 20) from by decide, show ¬ ((30 : Int) = 22) from by decide, show ¬ ((30 : Int) = 26) from by decide, if_false, if_true, hs]
      rw [Bool.not_false, Bool.and_true, decide_eq_decide]
      omega
    have HM := Lib.hid hm
    clear hm hs
    rcases hN with q3 | ⟨q3, q4⟩
    all_goals
      go_enter Tryz.func49, Tryz.ntmps49
      go_wp2_with fail
      go_ret
      exact ⟨by rw [HM.out]; rfl, rfl⟩
  have p6 : (k == 30) = false := beq_eq_false_iff_ne.2 k30
  have hm : mayS k n = false := by
    simp only [mayS, if_neg k12, if_neg k19, if_neg k20, if_neg k22, if_neg k26, if_neg k30]
  have HM := Lib.hid hm
  clear hm hs
  rcases hN with q3 | ⟨q3, q4⟩
  all_goals
    go_enter Tryz.func49, Tryz.ntmps49
    go_wp2_with fail
    go_ret
    exact ⟨by rw [HM.out]; rfl, rfl⟩
end Go.Proofs.YtgffhiopbnkjbaaGreatDoor

namespace Go.Q
open Go Go.RowKit
abbrev natInts (ns : List Nat) : List Int := ns.map fun (n : Nat) => (n : Int)
theorem enc4_le (n : Nat) : (enc n).length ≤ 4 := by unfold enc; split; simp; split; simp; split <;> simp
theorem encAll_le : ∀ (l : List Nat), (encAll l).length ≤ 4 * l.length
  | [] => by simp [encAll]
  | n :: l => by
    have := encAll_le l
    have := enc4_le n
    simp only [encAll, List.flatMap_cons, List.length_append, List.length_cons] at *
    omega
theorem encAll_take {ns : List Nat} {j n : Nat} (h : ns[j]? = some n) : encAll (ns.take (j + 1)) = encAll (ns.take j) ++ enc n := by
  unfold encAll
  rw [List.take_add_one, h]
  simp
theorem encAll_take_le (ns : List Nat) (j : Nat) : (encAll (ns.take j)).length ≤ 4 * ns.length := by
  have := encAll_le (ns.take j)
  rw [List.length_take] at this
  omega
end Go.Q
namespace Go.Proofs.YtgffhiopbnkjbaaGreatDoor
open Go Go.RowKit Go.Q

/-- Some bytes more, out of a new block. -/
theorem add_bytes {w : World} {base n : Nat} {v : Value} {xs : List UInt8} (hown : w.ownsRow base 5 1 v n (Lib.byteCells xs)) (l : List UInt8) (cs : Array Value) (hcs : (Lib.byteCells l).toArray = cs) (k : Nat) (hk : l.length = k) (hsz : n + k ≤ 1099511627776) (hb : base ≤ w.heap.size) :
    ∃ a c w', (Builtin.append_ #[23, 23] 23 #[v, .slice (some ⟨w.heap.size, 0, none⟩) k k]).run Tryz.prog (w.alloc (.cells cs 5)) = .ok (.slice a (n + k) c) w' ∧ w'.ownsRow base 5 1 (.slice a (n + k) c) (n + k) (Lib.byteCells (xs ++ l)) ∧ Fr (fun k => v.ownBlock = some k) w w' := by
  subst hcs hk
  have BX := Blk.new w 5 (Lib.byteCells l).toArray
  have F1 : Fr (fun _ => False) w (w.alloc (.cells (Lib.byteCells l).toArray 5)) := (Fr.refl w).alloc _
  have hsrc : Bytes (w.alloc (.cells (Lib.byteCells l).toArray 5)) (.slice (some ⟨w.heap.size, 0, none⟩) l.length l.length) l := by
    have h := Vals.of_block BX (by unfold maxLen; simp [byteCells_len]; omega)
    simpa [byteCells_len] using h
  obtain ⟨v', w2, hrun, h1, F2, _⟩ := append_bytes (ownsRow_fr hown F1 (fun _ _ h => h)) (some ⟨w.heap.size, 0, none⟩) l.length l.length l hsrc (by omega) (Nat.le_trans hb F1.size)
  obtain ⟨a, m', c, rfl, rfl⟩ := own_shape h1
  exact ⟨a, c, w2, hrun, h1, (F1.mono (T := fun k => v.ownBlock = some k) (fun _ _ h => h.elim)).trans F2⟩

set_option maxRecDepth 20000 in
set_option maxHeartbeats 2000000 in
theorem r06Utf8_any (v : Value) (ns : List Nat) (w : World) (h : Ints w v (natInts ns)) (hn : ∀ n ∈ ns, n < 1114112) (hlim : ns.length ≤ 100000000) :
    Calls Tryz.prog 28 #[v] w fun e w' => ∃ v', e = .returned v' ∧ w'.ownsRow w.heap.size 5 1 v' (encAll ns).length (Lib.byteCells (encAll ns)) ∧ Fr (fun _ => False) w w' := by
  obtain ⟨a, cap, rfl, hc, hm, hx⟩ := h.form
  rw [List.length_map] at hc hx ⊢
  have HX := Lib.hid hx
  have HN := Lib.hid hn
  clear h hx hn hc hm
  go_enter Tryz.func28, Tryz.ntmps28
  go_wp2_with fail
  go_loopg [3, 4] ns.length (fun g b i wr => ∃ (j : Nat) (a6 : Option Addr) (n6 c6 : Nat), g = ns.length - j ∧ j ≤ ns.length ∧ b = .slice a6 n6 c6 ∧ i = .int .i64 j ∧ wr.ownsRow w.heap.size 5 1 (.slice a6 n6 c6) (encAll (ns.take j)).length (Lib.byteCells (encAll (ns.take j))) ∧ Fr (fun _ => False) w wr)
  case atStart => exact ⟨0, none, 0, 0, rfl, Nat.zero_le _, rfl, rfl, ⟨rfl, .inl ⟨rfl, rfl⟩⟩, Fr.refl _⟩
  case round =>
    obtain ⟨j, a6, n6, c6, hg, hj, rfl, rfl, ho6, G6⟩ := hrel
    have HG := Lib.hid hg
    clear hg
    by_cases hjl : j < ns.length
    · obtain ⟨b, o, rfl, hy⟩ := HX.out (by omega)
      obtain ⟨n, hnj⟩ : ∃ n, ns[j]? = some n := ⟨_, List.getElem?_eq_getElem hjl⟩
      have ec := G6.cell (hy j n (by rw [List.getElem?_map, hnj]; rfl)) (fun h => h)
      have hb0 : w.heap.size ≤ wr.heap.size := G6.size
      have hlt := HN.out n (List.mem_of_getElem? hnj)
      have htl := encAll_take_le ns j
      have hvb := (Vals.of_own ho6).2
      have q1 : (0 : Int) ≤ (j : Int) := by omega
      have q2 : (j : Int) < (ns.length : Int) := by omega
      have HT := Lib.hid (encAll_take hnj)
      have HHY := Lib.hid hy
      clear hy hnj
      by_cases n1 : n < 128
      · have r1 : (n : Int) < 128 := by omega
        have hw1 : IntKind.u8.wrap (n : Int) = (n : Int) := by simp [IntKind.wrap, IntKind.signed, IntKind.bits]; omega
        have he : enc n = [UInt8.ofNat n] := by unfold enc; rw [if_pos n1]
        obtain ⟨a7, c7, w7, hr7, ho7, F7⟩ := add_bytes ho6 [UInt8.ofNat n] #[.int .u8 n] (by simp only [Lib.byteCells, List.map_cons, List.map_nil, Go.Q.u8 n (by omega)]) 1 rfl (by omega) hb0
        have G7 := G6.trans' F7 (fun i hi e => absurd hi (by have := hvb i e; omega))
        rw [← he, ← HT.out] at ho7
        have hL := congrArg List.length HT.out
        rw [List.length_append, he] at hL
        have HL := Lib.hid hL
        have HO7 := Lib.hid ho7
        have HG7 := Lib.hid G7
        have HRUN := Lib.hid hr7
        clear ho6 ho7 F7 hvb G6 G7 hr7 hL he htl
        generalize (encAll (ns.take j)).length = L at *
        go_wp2_with (at_builtin; refine wpList_append_run (by rfl) (.tmp 40) (.tmp 43) 23 (by rfl) _ w7 (by exact HRUN.out) ?_)
        go_roundg (ns.length - (j + 1))
        case measure => rw [HG.out]; omega
        case rel => exact ⟨j + 1, a7, L + 1, c7, rfl, by omega, rfl, by go_num, by rw [HL.out]; exact HO7.out, HG7.out⟩
      have r1 : ¬ (n : Int) < 128 := by omega
      by_cases n2 : n < 2048
      · have r2 : (n : Int) < 2048 := by omega
        obtain ⟨y1, hy1⟩ : ∃ y, y = 192 + n / 64 := ⟨_, rfl⟩
        obtain ⟨y2, hy2⟩ : ∃ y, y = 128 + n % 64 := ⟨_, rfl⟩
        have hw1 : IntKind.u8.wrap (192 + (n : Int) / 64) = (y1 : Int) := by rw [hy1]; simp [IntKind.wrap, IntKind.signed, IntKind.bits]; omega
        have hw2 : IntKind.u8.wrap (128 + (n : Int) % 64) = (y2 : Int) := by rw [hy2]; simp [IntKind.wrap, IntKind.signed, IntKind.bits]; omega
        have he : enc n = [UInt8.ofNat y1, UInt8.ofNat y2] := by unfold enc; rw [if_neg n1, if_pos n2, hy1, hy2]
        obtain ⟨a7, c7, w7, hr7, ho7, F7⟩ := add_bytes ho6 [UInt8.ofNat y1, UInt8.ofNat y2] #[.int .u8 y1, .int .u8 y2] (by simp only [Lib.byteCells, List.map_cons, List.map_nil, Go.Q.u8 y1 (by omega), Go.Q.u8 y2 (by omega)]) 2 rfl (by omega) hb0
        have G7 := G6.trans' F7 (fun i hi e => absurd hi (by have := hvb i e; omega))
        rw [← he, ← HT.out] at ho7
        have hL := congrArg List.length HT.out
        rw [List.length_append, he] at hL
        have HL := Lib.hid hL
        have HO7 := Lib.hid ho7
        have HG7 := Lib.hid G7
        have HRUN := Lib.hid hr7
        clear ho6 ho7 F7 hvb G6 G7 hr7 hL he htl hy1 hy2
        generalize (encAll (ns.take j)).length = L at *
        go_wp2_with (at_builtin; refine wpList_append_run (by rfl) (.tmp 48) (.tmp 57) 23 (by rfl) _ w7 (by exact HRUN.out) ?_)
        go_roundg (ns.length - (j + 1))
        case measure => rw [HG.out]; omega
        case rel => exact ⟨j + 1, a7, L + 2, c7, rfl, by omega, rfl, by go_num, by rw [HL.out]; exact HO7.out, HG7.out⟩
      have r2 : ¬ (n : Int) < 2048 := by omega
      by_cases n3 : n < 65536
      · have r3 : (n : Int) < 65536 := by omega
        obtain ⟨y1, hy1⟩ : ∃ y, y = 224 + n / 4096 := ⟨_, rfl⟩
        obtain ⟨y2, hy2⟩ : ∃ y, y = 128 + n / 64 % 64 := ⟨_, rfl⟩
        obtain ⟨y3, hy3⟩ : ∃ y, y = 128 + n % 64 := ⟨_, rfl⟩
        have hw1 : IntKind.u8.wrap (224 + (n : Int) / 4096) = (y1 : Int) := by rw [hy1]; simp [IntKind.wrap, IntKind.signed, IntKind.bits]; omega
        have hw2 : IntKind.u8.wrap (128 + (n : Int) / 64 % 64) = (y2 : Int) := by rw [hy2]; simp [IntKind.wrap, IntKind.signed, IntKind.bits]; omega
        have hw3 : IntKind.u8.wrap (128 + (n : Int) % 64) = (y3 : Int) := by rw [hy3]; simp [IntKind.wrap, IntKind.signed, IntKind.bits]; omega
        have he : enc n = [UInt8.ofNat y1, UInt8.ofNat y2, UInt8.ofNat y3] := by unfold enc; rw [if_neg n1, if_neg n2, if_pos n3, hy1, hy2, hy3]
        obtain ⟨a7, c7, w7, hr7, ho7, F7⟩ := add_bytes ho6 [UInt8.ofNat y1, UInt8.ofNat y2, UInt8.ofNat y3] #[.int .u8 y1, .int .u8 y2, .int .u8 y3] (by simp only [Lib.byteCells, List.map_cons, List.map_nil, Go.Q.u8 y1 (by omega), Go.Q.u8 y2 (by omega), Go.Q.u8 y3 (by omega)]) 3 rfl (by omega) hb0
        have G7 := G6.trans' F7 (fun i hi e => absurd hi (by have := hvb i e; omega))
        rw [← he, ← HT.out] at ho7
        have hL := congrArg List.length HT.out
        rw [List.length_append, he] at hL
        have HL := Lib.hid hL
        have HO7 := Lib.hid ho7
        have HG7 := Lib.hid G7
        have HRUN := Lib.hid hr7
        clear ho6 ho7 F7 hvb G6 G7 hr7 hL he htl hy1 hy2 hy3
        generalize (encAll (ns.take j)).length = L at *
        go_wp2_with (at_builtin; refine wpList_append_run (by rfl) (.tmp 62) (.tmp 76) 23 (by rfl) _ w7 (by exact HRUN.out) ?_)
        go_roundg (ns.length - (j + 1))
        case measure => rw [HG.out]; omega
        case rel => exact ⟨j + 1, a7, L + 3, c7, rfl, by omega, rfl, by go_num, by rw [HL.out]; exact HO7.out, HG7.out⟩
      have r3 : ¬ (n : Int) < 65536 := by omega
      · obtain ⟨y0, hy0⟩ : ∃ y, y = 240 + n / 262144 := ⟨_, rfl⟩
        obtain ⟨y1, hy1⟩ : ∃ y, y = 128 + n / 4096 % 64 := ⟨_, rfl⟩
        obtain ⟨y2, hy2⟩ : ∃ y, y = 128 + n / 64 % 64 := ⟨_, rfl⟩
        obtain ⟨y3, hy3⟩ : ∃ y, y = 128 + n % 64 := ⟨_, rfl⟩
        have hw0 : IntKind.u8.wrap (240 + (n : Int) / 262144) = (y0 : Int) := by rw [hy0]; simp [IntKind.wrap, IntKind.signed, IntKind.bits]; omega
        have hw1 : IntKind.u8.wrap (128 + (n : Int) / 4096 % 64) = (y1 : Int) := by rw [hy1]; simp [IntKind.wrap, IntKind.signed, IntKind.bits]; omega
        have hw2 : IntKind.u8.wrap (128 + (n : Int) / 64 % 64) = (y2 : Int) := by rw [hy2]; simp [IntKind.wrap, IntKind.signed, IntKind.bits]; omega
        have hw3 : IntKind.u8.wrap (128 + (n : Int) % 64) = (y3 : Int) := by rw [hy3]; simp [IntKind.wrap, IntKind.signed, IntKind.bits]; omega
        have he : enc n = [UInt8.ofNat y0, UInt8.ofNat y1, UInt8.ofNat y2, UInt8.ofNat y3] := by unfold enc; rw [if_neg n1, if_neg n2, if_neg n3, hy0, hy1, hy2, hy3]
        obtain ⟨a7, c7, w7, hr7, ho7, F7⟩ := add_bytes ho6 [UInt8.ofNat y0, UInt8.ofNat y1, UInt8.ofNat y2, UInt8.ofNat y3] #[.int .u8 y0, .int .u8 y1, .int .u8 y2, .int .u8 y3] (by simp only [Lib.byteCells, List.map_cons, List.map_nil, Go.Q.u8 y0 (by omega), Go.Q.u8 y1 (by omega), Go.Q.u8 y2 (by omega), Go.Q.u8 y3 (by omega)]) 4 rfl (by omega) hb0
        have G7 := G6.trans' F7 (fun i hi e => absurd hi (by have := hvb i e; omega))
        rw [← he, ← HT.out] at ho7
        have hL := congrArg List.length HT.out
        rw [List.length_append, he] at hL
        have HL := Lib.hid hL
        have HO7 := Lib.hid ho7
        have HG7 := Lib.hid G7
        have HRUN := Lib.hid hr7
        clear ho6 ho7 F7 hvb G6 G7 hr7 hL he htl hy0 hy1 hy2 hy3
        generalize (encAll (ns.take j)).length = L at *
        go_wp2_with (at_builtin; refine wpList_append_run (by rfl) (.tmp 16) (.tmp 35) 23 (by rfl) _ w7 (by exact HRUN.out) ?_)
        go_roundg (ns.length - (j + 1))
        case measure => rw [HG.out]; omega
        case rel => exact ⟨j + 1, a7, L + 4, c7, rfl, by omega, rfl, by go_num, by rw [HL.out]; exact HO7.out, HG7.out⟩
    · have hj' : encAll (ns.take j) = encAll ns := by rw [List.take_of_length_le (by omega)]
      rw [hj'] at ho6
      have HO6 := Lib.hid ho6
      have HG6 := Lib.hid G6
      have q2 : ¬ (j : Int) < (ns.length : Int) := by omega
      clear ho6 G6 hj'
      go_wp2_with fail
      go_ret
      exact ⟨_, rfl, HO6.out, HG6.out⟩
end Go.Proofs.YtgffhiopbnkjbaaGreatDoor

namespace Go.Q
open Go Go.RowKit
/-- A sign's first part, and how many bytes it has behind. -/
def looseHead (c : Nat) : Nat × Nat := if 240 ≤ c then (c - 240, 3) else if 224 ≤ c then (c - 224, 2) else if 192 ≤ c then (c - 192, 1) else (c, 0)
def looseAcc (n0 : Nat) (l : List UInt8) : Nat := l.foldl (fun n y => 64 * n + y.toNat % 64) n0
def looseS : Nat → List UInt8 → Option (List Nat)
  | _, [] => some []
  | 0, _ :: _ => none
  | f + 1, x :: t => if 1114111 < looseAcc (looseHead x.toNat).1 (t.take (looseHead x.toNat).2) then none else (looseS f (t.drop (looseHead x.toNat).2)).map (looseAcc (looseHead x.toNat).1 (t.take (looseHead x.toNat).2) :: ·)
theorem loose_fuel : ∀ (f g : Nat) (l : List UInt8), l.length ≤ f → l.length ≤ g → looseS f l = looseS g l
  | f, g, [], _, _ => by cases f <;> cases g <;> rfl
  | 0, _, _ :: _, h, _ => by simp at h
  | _ + 1, 0, _ :: _, _, h => by simp at h
  | f + 1, g + 1, x :: t, hf, hg => by
    simp only [List.length_cons] at hf hg
    simp only [looseS]
    rw [loose_fuel f g (t.drop (looseHead x.toNat).2) (by rw [List.length_drop]; omega) (by rw [List.length_drop]; omega)]
def looseL (l : List UInt8) : Option (List Nat) := looseS l.length l
theorem looseL_nil : looseL [] = some [] := rfl
theorem looseL_cons {x : UInt8} {t : List UInt8} {n0 more : Nat} (h : looseHead x.toNat = (n0, more)) : looseL (x :: t) = if 1114111 < looseAcc n0 (t.take more) then none else (looseL (t.drop more)).map (looseAcc n0 (t.take more) :: ·) := by
  simp only [looseL, List.length_cons, looseS, h]
  rw [loose_fuel t.length (t.drop more).length (t.drop more) (by rw [List.length_drop]; omega) (Nat.le_refl _)]
theorem acc_lt : ∀ (l : List UInt8) (n0 : Nat), looseAcc n0 l < (n0 + 1) * 64 ^ l.length
  | [], n0 => by simp [looseAcc]
  | y :: t, n0 => by
    have := acc_lt t (64 * n0 + y.toNat % 64)
    have h2 : (64 * n0 + y.toNat % 64 + 1) ≤ (n0 + 1) * 64 := by omega
    have h3 := Nat.mul_le_mul_right (64 ^ t.length) h2
    rw [Nat.mul_assoc] at h3
    have h4 : 64 * 64 ^ t.length = 64 ^ (y :: t).length := by rw [List.length_cons, Nat.pow_succ, Nat.mul_comm]
    rw [h4] at h3
    exact Nat.lt_of_lt_of_le this h3
theorem acc_take {n0 k : Nat} {t : List UInt8} {y : UInt8} (h : t[k]? = some y) : looseAcc n0 (t.take (k + 1)) = 64 * looseAcc n0 (t.take k) + y.toNat % 64 := by
  unfold looseAcc
  rw [List.take_add_one, h]
  simp [List.foldl_append]
theorem acc_small {c n0 more : Nat} (h : looseHead c = (n0, more)) (hc : c < 256) (t : List UInt8) (k : Nat) (hk : k ≤ more) : looseAcc n0 (t.take k) < 8388608 ∧ more ≤ 3 := by
  have h1 := acc_lt (t.take k) n0
  have h2 : (t.take k).length ≤ k := by rw [List.length_take]; omega
  have h3 : (64 : Nat) ^ (t.take k).length ≤ 64 ^ k := Nat.pow_le_pow_right (by decide) h2
  have h4 := Nat.mul_le_mul_left (n0 + 1) h3
  have hm : (n0 < 32 ∧ more ≤ 3) ∨ (n0 < 192 ∧ more = 0) := by
    unfold looseHead at h
    split at h
    · simp only [Prod.mk.injEq] at h; omega
    split at h
    · simp only [Prod.mk.injEq] at h; omega
    split at h
    · simp only [Prod.mk.injEq] at h; omega
    · simp only [Prod.mk.injEq] at h; omega
  rcases hm with ⟨a, b⟩ | ⟨a, rfl⟩
  · have h5 : (64 : Nat) ^ k ≤ 64 ^ 3 := Nat.pow_le_pow_right (by decide) (by omega)
    have h6 := Nat.mul_le_mul (show n0 + 1 ≤ 32 from by omega) h5
    exact ⟨by omega, b⟩
  · obtain rfl : k = 0 := by omega
    simp only [Nat.pow_zero, Nat.mul_one] at h4
    exact ⟨by omega, by omega⟩
/-- The signs of UTF-8, as the reference reads them. -/
def wideR (b : List UInt8) : Option (List Nat) :=
  match looseL b with
  | none => none
  | some ns => if (natInts ns).all (mayS 12) = true ∧ encAll ns = b then some ns else none
theorem wideR_none {b : List UInt8} (h : looseL b = none) : wideR b = none := by unfold wideR; rw [h]
theorem wideR_some {b : List UInt8} {ns : List Nat} (h : looseL b = some ns) : wideR b = if (natInts ns).all (mayS 12) = true ∧ encAll ns = b then some ns else none := by unfold wideR; rw [h]
/-- What it reads is right. -/
theorem wideR_ok {b : List UInt8} {ns : List Nat} (h : wideR b = some ns) : encAll ns = b ∧ (natInts ns).all (mayS 12) = true ∧ signsS 12 b = natInts ns ∧ rightS 12 b = true := by
  unfold wideR at h
  split at h
  · cases h
  · split at h
    · rename_i hh
      obtain ⟨ha, hb⟩ := hh
      simp only [Option.some.injEq] at h
      rw [h] at ha hb
      have hs : signsS 12 b = natInts ns := by
        have := signs_of (k := 12) (l := natInts ns) (by decide) (fun n hn => List.all_eq_true.1 ha n hn)
        rw [← this]
        congr 1
        rw [← hb]
        simp only [ofS, encAll, natInts, List.flatMap_map]
        rfl
      refine ⟨hb, ha, hs, ?_⟩
      unfold rightS
      rw [hs, ha]
      rfl
    · cases h
end Go.Q

namespace Go.Proofs.YtgffhiopbnkjbaaGreatDoor
open Go Go.RowKit Go.Q

def WideOut (w w' : World) (b : List UInt8) (e : Ending) : Prop :=
  ∃ v, e = .returned (.tuple #[v, .bool (wideR b).isSome]) ∧ Ints w' v (natInts ((wideR b).getD [])) ∧ Fr (fun _ => False) w w'
theorem wideOut_no {w w' : World} {b : List UInt8} (h : wideR b = none) (F : Fr (fun _ => False) w w') : WideOut w w' b (.returned (.tuple #[.slice none 0 0, .bool false])) := by
  refine ⟨_, by rw [h]; rfl, ?_, F⟩
  rw [h]
  exact ⟨none, 0, rfl, Nat.zero_le _, by unfold maxLen; omega, fun h => absurd h (by decide)⟩
theorem le_snoc {xs : List Nat} {A : Nat} (h : ∀ x ∈ xs, x ≤ 1114111) (hA : ¬ 1114111 < A) : ∀ x ∈ xs ++ [A], x ≤ 1114111 := by
  intro x hx
  rcases List.mem_append.1 hx with h' | h'
  · exact h x h'
  · rw [List.mem_singleton.1 h']
    omega

set_option maxRecDepth 20000 in
set_option maxHeartbeats 8000000 in
theorem r06wide_any (v : Value) (b : List UInt8) (w : World) (h : Bytes w v b) (hlim : b.length ≤ 16777216) :
    Calls Tryz.prog 48 #[v] w fun e w' => WideOut w w' b e := by
  obtain ⟨a, cap, rfl, -, -, hx⟩ := h.form
  have HB := Lib.hid h
  have HX := Lib.hid hx
  clear h hx
  go_enter Tryz.func48, Tryz.ntmps48
  go_wp2_with fail
  go_loopg [4, 5] (b.length + 4) (fun g l i wr => ∃ (xs : List Nat) (j : Nat) (a6 : Option Addr) (n6 c6 : Nat), g = b.length + 4 - j ∧ j ≤ b.length + 3 ∧ l = .slice a6 n6 c6 ∧ i = .int .i64 j ∧ wr.ownsRow w.heap.size 3 1 (.slice a6 n6 c6) xs.length (intCells (natInts xs)) ∧ looseL b = (looseL (b.drop j)).map (xs ++ ·) ∧ (∀ x ∈ xs, x ≤ 1114111) ∧ xs.length ≤ j ∧ Fr (fun _ => False) w wr)
  case atStart => exact ⟨[], 0, none, 0, 0, rfl, Nat.zero_le _, rfl, rfl, ⟨rfl, .inl ⟨rfl, rfl⟩⟩, by simp, by simp, Nat.zero_le _, Fr.refl _⟩
  case round =>
    obtain ⟨xs, j, a6, n6, c6, hg, hj, rfl, rfl, ho6, hL, hxs, hxl, G6⟩ := hrel
    have HG := Lib.hid hg
    have HL := Lib.hid hL
    have HXS := Lib.hid hxs
    have HO6 := Lib.hid ho6
    have HG6 := Lib.hid G6
    clear hg hL hxs ho6 G6
    by_cases hjl : j < b.length
    · obtain ⟨bb, oo, rfl, hy⟩ := HX.out (by omega)
      obtain ⟨x, hxj⟩ : ∃ x, b[j]? = some x := ⟨_, List.getElem?_eq_getElem hjl⟩
      have hd : b.drop j = x :: b.drop (j + 1) := by
        obtain ⟨h, rfl⟩ := List.getElem?_eq_some_iff.1 hxj
        exact List.drop_eq_getElem_cons h
      have ec := HG6.out.cell (hy j x hxj) (fun h => h)
      have HY := Lib.hid hy
      have q1 : (0 : Int) ≤ (j : Int) := by omega
      have q2 : (j : Int) < (b.length : Int) := by omega
      obtain ⟨⟨n0, more⟩, hh⟩ : ∃ p, looseHead x.toNat = p := ⟨_, rfl⟩
      have hLc := looseL_cons (t := b.drop (j + 1)) hh
      have hxlt := x.toNat_lt
      have hsm := fun k hk => acc_small hh hxlt (b.drop (j + 1)) k hk
      obtain ⟨c, hc⟩ : ∃ c, c = x.toNat := ⟨_, rfl⟩
      rw [← hc] at hxlt hh ec
      have hcw : wrap64 (c : Int) = (c : Int) := by unfold wrap64; omega
      have HD := Lib.hid hd
      have HLC := Lib.hid hLc
      have HSM := Lib.hid hsm
      have hcases : ((240 ≤ c ∧ (c : Int) - 240 = (n0 : Int) ∧ more = 3) ∨ (¬ 240 ≤ c ∧ 224 ≤ c ∧ (c : Int) - 224 = (n0 : Int) ∧ more = 2) ∨ (¬ 240 ≤ c ∧ ¬ 224 ≤ c ∧ 192 ≤ c ∧ (c : Int) - 192 = (n0 : Int) ∧ more = 1) ∨ (¬ 240 ≤ c ∧ ¬ 224 ≤ c ∧ ¬ 192 ≤ c ∧ (c : Int) = (n0 : Int) ∧ more = 0)) := by
        unfold looseHead at hh
        split at hh
        · simp only [Prod.mk.injEq] at hh; omega
        split at hh
        · simp only [Prod.mk.injEq] at hh; omega
        split at hh
        · simp only [Prod.mk.injEq] at hh; omega
        · simp only [Prod.mk.injEq] at hh; omega
      clear hy hxj hd hLc hsm hc hh
      have hn0 : n0 < 256 := by omega
      rcases hcases with ⟨d1, d4, rfl⟩ | ⟨d1, d2, d4, rfl⟩ | ⟨d1, d2, d3, d4, rfl⟩ | ⟨d1, d2, d3, d4, rfl⟩
      · have p1 : (240 : Int) ≤ (c : Int) := by omega
        go_wp2_with fail
        obtain ⟨wo, hwo⟩ : ∃ wo : World, wo = wr := ⟨_, rfl⟩
        obtain rfl := hwo
        go_loopg [7, 9] (3 + 1) (fun g n k wi => ∃ k1 : Nat, g = 3 + 2 - k1 ∧ 0 < k1 ∧ k1 ≤ 3 + 1 ∧ n = .int .i64 (looseAcc n0 ((b.drop (j + 1)).take (k1 - 1))) ∧ k = .int .i64 k1 ∧ wi = wo)
        case atStart => exact ⟨1, rfl, by omega, by omega, rfl, rfl, rfl⟩
        case round =>
          obtain ⟨k1, hg, hk0, hk, rfl, rfl, rfl⟩ := hrel
          have HG2 := Lib.hid hg
          clear hg
          have hA : looseAcc n0 ((b.drop (j + 1)).take (k1 - 1)) < 8388608 := (HSM.out (k1 - 1) (by omega)).1
          by_cases hst : k1 ≤ 3 ∧ j + k1 < b.length
          · obtain ⟨hs1, hs2⟩ := hst
            obtain ⟨y, hyj⟩ : ∃ y, b[j + k1]? = some y := ⟨_, List.getElem?_eq_getElem hs2⟩
            have ey := HG6.out.cell (HY.out (j + k1) y hyj) (fun h => h)
            have hty : (b.drop (j + 1))[k1 - 1]? = some y := by rw [List.getElem?_drop, show j + 1 + (k1 - 1) = j + k1 from by omega]; exact hyj
            have hT := acc_take (n0 := n0) hty
            rw [show k1 - 1 + 1 = k1 from by omega] at hT
            have hylt := y.toNat_lt
            have hyw : wrap64 (y.toNat : Int) = (y.toNat : Int) := by unfold wrap64; omega
            generalize y.toNat = yy at *
            generalize looseAcc n0 ((b.drop (j + 1)).take (k1 - 1)) = A at *
            have HT := Lib.hid hT
            have r1 : (k1 : Int) ≤ 3 := by omega
            have r2 : (j : Int) + (k1 : Int) < (b.length : Int) := by omega
            have r3 : (0 : Int) ≤ (j : Int) + (k1 : Int) := by omega
            clear hyj hty hT
            go_wp2_with fail
            go_roundg (3 + 2 - (k1 + 1))
            case measure => rw [HG2.out]; omega
            case rel => exact ⟨k1 + 1, rfl, by omega, by omega, by rw [Nat.add_sub_cancel, HT.out]; go_num, by go_num, rfl⟩
          · have hAM : looseAcc n0 ((b.drop (j + 1)).take (k1 - 1)) = looseAcc n0 ((b.drop (j + 1)).take 3) := by
              by_cases hk1 : k1 ≤ 3
              · have hlen : (b.drop (j + 1)).length ≤ k1 - 1 := by rw [List.length_drop]; omega
                rw [List.take_of_length_le hlen, List.take_of_length_le (by omega)]
              · rw [show k1 - 1 = 3 from by omega]
            have hout : ((k1 : Int) ≤ 3 ∧ ¬ (j : Int) + (k1 : Int) < (b.length : Int)) ∨ ¬ (k1 : Int) ≤ 3 := by omega
            have hLC := HLC.out
            rw [hAM] at *
            generalize looseAcc n0 ((b.drop (j + 1)).take 3) = A at *
            have HLC2 := Lib.hid hLC
            clear hAM hLC HLC HSM
            by_cases hbig : 1114111 < A
            · have r4 : (1114111 : Int) < (A : Int) := by omega
              have hnone : wideR b = none := wideR_none (by rw [HL.out, HD.out, HLC2.out, if_pos hbig]; rfl)
              have HNO := Lib.hid hnone
              clear hnone
              rcases hout with ⟨r1, r2⟩ | r1
              all_goals
                go_wp2_with fail
                exact bodyPost_ret (v := .tuple #[.slice none 0 0, .bool false]) (by simp [results, Tryz.results48, go_sem]) rfl (wideOut_no HNO.out HG6.out)
            · have r4 : ¬ (1114111 : Int) < (A : Int) := by omega
              have hb0 : w.heap.size ≤ wr.heap.size := HG6.out.size
              have hvb := (Vals.of_own HO6.out).2
              obtain ⟨a7, c7, w7, hr7, ho7, F7, -⟩ := add_int HO6.out hb0 (by omega) (A : Int) wr.heap.size ((Fr.refl (S := fun _ => False) wr).alloc (.cells #[.int .i64 (A : Int)] 3)) (Blk.new wr 3 #[.int .i64 (A : Int)])
              have G7 := HG6.out.trans' F7 (fun i hi e => absurd hi (by have := hvb i e; omega))
              have HO7 := Lib.hid ho7
              have HG7 := Lib.hid G7
              have HRUN := Lib.hid hr7
              have hl2 : looseL b = (looseL (b.drop (j + 3 + 1))).map ((xs ++ [A]) ++ ·) := by
                rw [HL.out, HD.out, HLC2.out, if_neg hbig, List.drop_drop, Option.map_map, show j + 1 + 3 = j + 3 + 1 from by omega]
                congr 1
                funext l
                simp
              have HL2 := Lib.hid hl2
              have HBIG := Lib.hid hbig
              clear ho7 G7 hr7 hl2 F7 hvb hbig
              rcases hout with ⟨r1, r2⟩ | r1
              all_goals
                go_wp2_with (at_builtin; refine wpList_append_run (by rfl) (.tmp 59) (.tmp 61) 22 (by rfl) _ w7 (by exact HRUN.out) ?_)
                go_roundg (b.length + 4 - (j + 3 + 1))
                case measure => rw [HG.out]; omega
                case rel => exact ⟨xs ++ [A], j + 3 + 1, a7, xs.length + 1, c7, rfl, by omega, rfl, by go_num, (by have := HO7.out; rw [List.length_append, List.length_singleton]; simpa [natInts] using this), HL2.out, le_snoc HXS.out HBIG.out, (by rw [List.length_append, List.length_singleton]; omega), HG7.out⟩
      · have p1 : ¬ (240 : Int) ≤ (c : Int) := by omega
        have p2 : (224 : Int) ≤ (c : Int) := by omega
        go_wp2_with fail
        obtain ⟨wo, hwo⟩ : ∃ wo : World, wo = wr := ⟨_, rfl⟩
        obtain rfl := hwo
        go_loopg [7, 9] (2 + 1) (fun g n k wi => ∃ k1 : Nat, g = 2 + 2 - k1 ∧ 0 < k1 ∧ k1 ≤ 2 + 1 ∧ n = .int .i64 (looseAcc n0 ((b.drop (j + 1)).take (k1 - 1))) ∧ k = .int .i64 k1 ∧ wi = wo)
        case atStart => exact ⟨1, rfl, by omega, by omega, rfl, rfl, rfl⟩
        case round =>
          obtain ⟨k1, hg, hk0, hk, rfl, rfl, rfl⟩ := hrel
          have HG2 := Lib.hid hg
          clear hg
          have hA : looseAcc n0 ((b.drop (j + 1)).take (k1 - 1)) < 8388608 := (HSM.out (k1 - 1) (by omega)).1
          by_cases hst : k1 ≤ 2 ∧ j + k1 < b.length
          · obtain ⟨hs1, hs2⟩ := hst
            obtain ⟨y, hyj⟩ : ∃ y, b[j + k1]? = some y := ⟨_, List.getElem?_eq_getElem hs2⟩
            have ey := HG6.out.cell (HY.out (j + k1) y hyj) (fun h => h)
            have hty : (b.drop (j + 1))[k1 - 1]? = some y := by rw [List.getElem?_drop, show j + 1 + (k1 - 1) = j + k1 from by omega]; exact hyj
            have hT := acc_take (n0 := n0) hty
            rw [show k1 - 1 + 1 = k1 from by omega] at hT
            have hylt := y.toNat_lt
            have hyw : wrap64 (y.toNat : Int) = (y.toNat : Int) := by unfold wrap64; omega
            generalize y.toNat = yy at *
            generalize looseAcc n0 ((b.drop (j + 1)).take (k1 - 1)) = A at *
            have HT := Lib.hid hT
            have r1 : (k1 : Int) ≤ 2 := by omega
            have r2 : (j : Int) + (k1 : Int) < (b.length : Int) := by omega
            have r3 : (0 : Int) ≤ (j : Int) + (k1 : Int) := by omega
            clear hyj hty hT
            go_wp2_with fail
            go_roundg (2 + 2 - (k1 + 1))
            case measure => rw [HG2.out]; omega
            case rel => exact ⟨k1 + 1, rfl, by omega, by omega, by rw [Nat.add_sub_cancel, HT.out]; go_num, by go_num, rfl⟩
          · have hAM : looseAcc n0 ((b.drop (j + 1)).take (k1 - 1)) = looseAcc n0 ((b.drop (j + 1)).take 2) := by
              by_cases hk1 : k1 ≤ 2
              · have hlen : (b.drop (j + 1)).length ≤ k1 - 1 := by rw [List.length_drop]; omega
                rw [List.take_of_length_le hlen, List.take_of_length_le (by omega)]
              · rw [show k1 - 1 = 2 from by omega]
            have hout : ((k1 : Int) ≤ 2 ∧ ¬ (j : Int) + (k1 : Int) < (b.length : Int)) ∨ ¬ (k1 : Int) ≤ 2 := by omega
            have hLC := HLC.out
            rw [hAM] at *
            generalize looseAcc n0 ((b.drop (j + 1)).take 2) = A at *
            have HLC2 := Lib.hid hLC
            clear hAM hLC HLC HSM
            by_cases hbig : 1114111 < A
            · have r4 : (1114111 : Int) < (A : Int) := by omega
              have hnone : wideR b = none := wideR_none (by rw [HL.out, HD.out, HLC2.out, if_pos hbig]; rfl)
              have HNO := Lib.hid hnone
              clear hnone
              rcases hout with ⟨r1, r2⟩ | r1
              all_goals
                go_wp2_with fail
                exact bodyPost_ret (v := .tuple #[.slice none 0 0, .bool false]) (by simp [results, Tryz.results48, go_sem]) rfl (wideOut_no HNO.out HG6.out)
            · have r4 : ¬ (1114111 : Int) < (A : Int) := by omega
              have hb0 : w.heap.size ≤ wr.heap.size := HG6.out.size
              have hvb := (Vals.of_own HO6.out).2
              obtain ⟨a7, c7, w7, hr7, ho7, F7, -⟩ := add_int HO6.out hb0 (by omega) (A : Int) wr.heap.size ((Fr.refl (S := fun _ => False) wr).alloc (.cells #[.int .i64 (A : Int)] 3)) (Blk.new wr 3 #[.int .i64 (A : Int)])
              have G7 := HG6.out.trans' F7 (fun i hi e => absurd hi (by have := hvb i e; omega))
              have HO7 := Lib.hid ho7
              have HG7 := Lib.hid G7
              have HRUN := Lib.hid hr7
              have hl2 : looseL b = (looseL (b.drop (j + 2 + 1))).map ((xs ++ [A]) ++ ·) := by
                rw [HL.out, HD.out, HLC2.out, if_neg hbig, List.drop_drop, Option.map_map, show j + 1 + 2 = j + 2 + 1 from by omega]
                congr 1
                funext l
                simp
              have HL2 := Lib.hid hl2
              have HBIG := Lib.hid hbig
              clear ho7 G7 hr7 hl2 F7 hvb hbig
              rcases hout with ⟨r1, r2⟩ | r1
              all_goals
                go_wp2_with (at_builtin; refine wpList_append_run (by rfl) (.tmp 59) (.tmp 61) 22 (by rfl) _ w7 (by exact HRUN.out) ?_)
                go_roundg (b.length + 4 - (j + 2 + 1))
                case measure => rw [HG.out]; omega
                case rel => exact ⟨xs ++ [A], j + 2 + 1, a7, xs.length + 1, c7, rfl, by omega, rfl, by go_num, (by have := HO7.out; rw [List.length_append, List.length_singleton]; simpa [natInts] using this), HL2.out, le_snoc HXS.out HBIG.out, (by rw [List.length_append, List.length_singleton]; omega), HG7.out⟩
      · have p1 : ¬ (240 : Int) ≤ (c : Int) := by omega
        have p2 : ¬ (224 : Int) ≤ (c : Int) := by omega
        have p3 : (192 : Int) ≤ (c : Int) := by omega
        go_wp2_with fail
        obtain ⟨wo, hwo⟩ : ∃ wo : World, wo = wr := ⟨_, rfl⟩
        obtain rfl := hwo
        go_loopg [7, 9] (1 + 1) (fun g n k wi => ∃ k1 : Nat, g = 1 + 2 - k1 ∧ 0 < k1 ∧ k1 ≤ 1 + 1 ∧ n = .int .i64 (looseAcc n0 ((b.drop (j + 1)).take (k1 - 1))) ∧ k = .int .i64 k1 ∧ wi = wo)
        case atStart => exact ⟨1, rfl, by omega, by omega, rfl, rfl, rfl⟩
        case round =>
          obtain ⟨k1, hg, hk0, hk, rfl, rfl, rfl⟩ := hrel
          have HG2 := Lib.hid hg
          clear hg
          have hA : looseAcc n0 ((b.drop (j + 1)).take (k1 - 1)) < 8388608 := (HSM.out (k1 - 1) (by omega)).1
          by_cases hst : k1 ≤ 1 ∧ j + k1 < b.length
          · obtain ⟨hs1, hs2⟩ := hst
            obtain ⟨y, hyj⟩ : ∃ y, b[j + k1]? = some y := ⟨_, List.getElem?_eq_getElem hs2⟩
            have ey := HG6.out.cell (HY.out (j + k1) y hyj) (fun h => h)
            have hty : (b.drop (j + 1))[k1 - 1]? = some y := by rw [List.getElem?_drop, show j + 1 + (k1 - 1) = j + k1 from by omega]; exact hyj
            have hT := acc_take (n0 := n0) hty
            rw [show k1 - 1 + 1 = k1 from by omega] at hT
            have hylt := y.toNat_lt
            have hyw : wrap64 (y.toNat : Int) = (y.toNat : Int) := by unfold wrap64; omega
            generalize y.toNat = yy at *
            generalize looseAcc n0 ((b.drop (j + 1)).take (k1 - 1)) = A at *
            have HT := Lib.hid hT
            have r1 : (k1 : Int) ≤ 1 := by omega
            have r2 : (j : Int) + (k1 : Int) < (b.length : Int) := by omega
            have r3 : (0 : Int) ≤ (j : Int) + (k1 : Int) := by omega
            clear hyj hty hT
            go_wp2_with fail
            go_roundg (1 + 2 - (k1 + 1))
            case measure => rw [HG2.out]; omega
            case rel => exact ⟨k1 + 1, rfl, by omega, by omega, by rw [Nat.add_sub_cancel, HT.out]; go_num, by go_num, rfl⟩
          · have hAM : looseAcc n0 ((b.drop (j + 1)).take (k1 - 1)) = looseAcc n0 ((b.drop (j + 1)).take 1) := by
              by_cases hk1 : k1 ≤ 1
              · have hlen : (b.drop (j + 1)).length ≤ k1 - 1 := by rw [List.length_drop]; omega
                rw [List.take_of_length_le hlen, List.take_of_length_le (by omega)]
              · rw [show k1 - 1 = 1 from by omega]
            have hout : ((k1 : Int) ≤ 1 ∧ ¬ (j : Int) + (k1 : Int) < (b.length : Int)) ∨ ¬ (k1 : Int) ≤ 1 := by omega
            have hLC := HLC.out
            rw [hAM] at *
            generalize looseAcc n0 ((b.drop (j + 1)).take 1) = A at *
            have HLC2 := Lib.hid hLC
            clear hAM hLC HLC HSM
            by_cases hbig : 1114111 < A
            · have r4 : (1114111 : Int) < (A : Int) := by omega
              have hnone : wideR b = none := wideR_none (by rw [HL.out, HD.out, HLC2.out, if_pos hbig]; rfl)
              have HNO := Lib.hid hnone
              clear hnone
              rcases hout with ⟨r1, r2⟩ | r1
              all_goals
                go_wp2_with fail
                exact bodyPost_ret (v := .tuple #[.slice none 0 0, .bool false]) (by simp [results, Tryz.results48, go_sem]) rfl (wideOut_no HNO.out HG6.out)
            · have r4 : ¬ (1114111 : Int) < (A : Int) := by omega
              have hb0 : w.heap.size ≤ wr.heap.size := HG6.out.size
              have hvb := (Vals.of_own HO6.out).2
              obtain ⟨a7, c7, w7, hr7, ho7, F7, -⟩ := add_int HO6.out hb0 (by omega) (A : Int) wr.heap.size ((Fr.refl (S := fun _ => False) wr).alloc (.cells #[.int .i64 (A : Int)] 3)) (Blk.new wr 3 #[.int .i64 (A : Int)])
              have G7 := HG6.out.trans' F7 (fun i hi e => absurd hi (by have := hvb i e; omega))
              have HO7 := Lib.hid ho7
              have HG7 := Lib.hid G7
              have HRUN := Lib.hid hr7
              have hl2 : looseL b = (looseL (b.drop (j + 1 + 1))).map ((xs ++ [A]) ++ ·) := by
                rw [HL.out, HD.out, HLC2.out, if_neg hbig, List.drop_drop, Option.map_map, show j + 1 + 1 = j + 1 + 1 from by omega]
                congr 1
                funext l
                simp
              have HL2 := Lib.hid hl2
              have HBIG := Lib.hid hbig
              clear ho7 G7 hr7 hl2 F7 hvb hbig
              rcases hout with ⟨r1, r2⟩ | r1
              all_goals
                go_wp2_with (at_builtin; refine wpList_append_run (by rfl) (.tmp 59) (.tmp 61) 22 (by rfl) _ w7 (by exact HRUN.out) ?_)
                go_roundg (b.length + 4 - (j + 1 + 1))
                case measure => rw [HG.out]; omega
                case rel => exact ⟨xs ++ [A], j + 1 + 1, a7, xs.length + 1, c7, rfl, by omega, rfl, by go_num, (by have := HO7.out; rw [List.length_append, List.length_singleton]; simpa [natInts] using this), HL2.out, le_snoc HXS.out HBIG.out, (by rw [List.length_append, List.length_singleton]; omega), HG7.out⟩
      · have p1 : ¬ (240 : Int) ≤ (c : Int) := by omega
        have p2 : ¬ (224 : Int) ≤ (c : Int) := by omega
        have p3 : ¬ (192 : Int) ≤ (c : Int) := by omega
        obtain rfl : c = n0 := by omega
        clear d4
        go_wp2_with fail
        obtain ⟨wo, hwo⟩ : ∃ wo : World, wo = wr := ⟨_, rfl⟩
        obtain rfl := hwo
        go_loopg [7, 9] (0 + 1) (fun g n k wi => ∃ k1 : Nat, g = 0 + 2 - k1 ∧ 0 < k1 ∧ k1 ≤ 0 + 1 ∧ n = .int .i64 (looseAcc c ((b.drop (j + 1)).take (k1 - 1))) ∧ k = .int .i64 k1 ∧ wi = wo)
        case atStart => exact ⟨1, rfl, by omega, by omega, rfl, rfl, rfl⟩
        case round =>
          obtain ⟨k1, hg, hk0, hk, rfl, rfl, rfl⟩ := hrel
          have HG2 := Lib.hid hg
          clear hg
          have hA : looseAcc c ((b.drop (j + 1)).take (k1 - 1)) < 8388608 := (HSM.out (k1 - 1) (by omega)).1
          by_cases hst : k1 ≤ 0 ∧ j + k1 < b.length
          · exact absurd hst.1 (by omega)
          · have hAM : looseAcc c ((b.drop (j + 1)).take (k1 - 1)) = looseAcc c ((b.drop (j + 1)).take 0) := by
              by_cases hk1 : k1 ≤ 0
              · have hlen : (b.drop (j + 1)).length ≤ k1 - 1 := by rw [List.length_drop]; omega
                rw [List.take_of_length_le hlen, List.take_of_length_le (by omega)]
              · rw [show k1 - 1 = 0 from by omega]
            have r1 : ¬ (k1 : Int) ≤ 0 := by omega
            have hLC := HLC.out
            rw [hAM] at *
            generalize looseAcc c ((b.drop (j + 1)).take 0) = A at *
            have HLC2 := Lib.hid hLC
            clear hAM hLC HLC HSM
            by_cases hbig : 1114111 < A
            · have r4 : (1114111 : Int) < (A : Int) := by omega
              have hnone : wideR b = none := wideR_none (by rw [HL.out, HD.out, HLC2.out, if_pos hbig]; rfl)
              have HNO := Lib.hid hnone
              clear hnone
              all_goals
                go_wp2_with fail
                exact bodyPost_ret (v := .tuple #[.slice none 0 0, .bool false]) (by simp [results, Tryz.results48, go_sem]) rfl (wideOut_no HNO.out HG6.out)
            · have r4 : ¬ (1114111 : Int) < (A : Int) := by omega
              have hb0 : w.heap.size ≤ wr.heap.size := HG6.out.size
              have hvb := (Vals.of_own HO6.out).2
              obtain ⟨a7, c7, w7, hr7, ho7, F7, -⟩ := add_int HO6.out hb0 (by omega) (A : Int) wr.heap.size ((Fr.refl (S := fun _ => False) wr).alloc (.cells #[.int .i64 (A : Int)] 3)) (Blk.new wr 3 #[.int .i64 (A : Int)])
              have G7 := HG6.out.trans' F7 (fun i hi e => absurd hi (by have := hvb i e; omega))
              have HO7 := Lib.hid ho7
              have HG7 := Lib.hid G7
              have HRUN := Lib.hid hr7
              have hl2 : looseL b = (looseL (b.drop (j + 0 + 1))).map ((xs ++ [A]) ++ ·) := by
                rw [HL.out, HD.out, HLC2.out, if_neg hbig, List.drop_drop, Option.map_map, show j + 1 + 0 = j + 0 + 1 from by omega]
                congr 1
                funext l
                simp
              have HL2 := Lib.hid hl2
              have HBIG := Lib.hid hbig
              clear ho7 G7 hr7 hl2 F7 hvb hbig
              all_goals
                go_wp2_with (at_builtin; refine wpList_append_run (by rfl) (.tmp 59) (.tmp 61) 22 (by rfl) _ w7 (by exact HRUN.out) ?_)
                go_roundg (b.length + 4 - (j + 0 + 1))
                case measure => rw [HG.out]; omega
                case rel => exact ⟨xs ++ [A], j + 0 + 1, a7, xs.length + 1, c7, rfl, by omega, rfl, by go_num, (by have := HO7.out; rw [List.length_append, List.length_singleton]; simpa [natInts] using this), HL2.out, le_snoc HXS.out HBIG.out, (by rw [List.length_append, List.length_singleton]; omega), HG7.out⟩
    · have q2 : ¬ (j : Int) < (b.length : Int) := by omega
      have hLb : looseL b = some xs := by rw [HL.out, List.drop_of_length_le (by omega), looseL_nil]; simp
      have hW := wideR_some hLb
      have HW := Lib.hid hW
      have hv6 := (Vals.of_own HO6.out).1
      obtain ⟨a', cap', he, -, -, hz⟩ := Ints.form hv6
      rw [List.length_map] at he hz
      simp only [Value.slice.injEq] at he
      obtain ⟨rfl, rfl, rfl⟩ := he
      have HV6 := Lib.hid hv6
      have HZ := Lib.hid hz
      clear hLb hW hv6 hz HL
      go_wp2_with fail
      obtain ⟨wo, hwo⟩ : ∃ wo : World, wo = wr := ⟨_, rfl⟩
      obtain rfl := hwo
      go_loopg [10] xs.length (fun g k wi => ∃ k1 : Nat, g = xs.length - k1 ∧ k1 ≤ xs.length ∧ k = .int .i64 k1 ∧ (natInts (xs.take k1)).all (mayS 12) = true ∧ wi = wo)
      case atStart => exact ⟨0, rfl, Nat.zero_le _, rfl, rfl, rfl⟩
      case round =>
        obtain ⟨k1, hg, hk, rfl, hall, rfl⟩ := hrel
        have HG2 := Lib.hid hg
        have HALL := Lib.hid hall
        clear hg hall
        by_cases hkl : k1 < xs.length
        · obtain ⟨b8, o8, rfl, hy8⟩ := HZ.out (by omega)
          obtain ⟨n, hn⟩ : ∃ n, xs[k1]? = some n := ⟨_, List.getElem?_eq_getElem hkl⟩
          have en := hy8 k1 n (by rw [List.getElem?_map, hn]; rfl)
          have hat : (natInts (xs.take (k1 + 1))).all (mayS 12) = ((natInts (xs.take k1)).all (mayS 12) && mayS 12 (n : Int)) := by
            rw [List.take_add_one, hn]
            simp [natInts]
          have hno : mayS 12 (n : Int) = false → (natInts xs).all (mayS 12) = false := fun h => by
            rw [List.all_eq_false]
            exact ⟨(n : Int), List.mem_map.2 ⟨n, List.mem_of_getElem? hn, rfl⟩, by simp [h]⟩
          have HAT := Lib.hid hat
          have HNO := Lib.hid hno
          have r1 : (0 : Int) ≤ (k1 : Int) := by omega
          have r2 : (k1 : Int) < (xs.length : Int) := by omega
          clear hy8 hn hat hno
          rcases Bool.eq_false_or_eq_true (mayS 12 (n : Int)) with hm | hm
          · have HM := Lib.hid hm
            have HC := Lib.hid (r06May_any 12 (n : Int))
            clear hm
            go_wp2_with (first | (go_at_call 49; refine (HC.out _).mono ?_; rintro e w' ⟨rfl, rfl⟩; rw [HM.out]))
            go_roundg (xs.length - (k1 + 1))
            case measure => rw [HG2.out]; omega
            case rel => exact ⟨k1 + 1, rfl, by omega, by go_num, by rw [HAT.out, HALL.out, HM.out]; rfl, rfl⟩
          · have HM := Lib.hid hm
            have HC := Lib.hid (r06May_any 12 (n : Int))
            have hnone : wideR b = none := by rw [HW.out, if_neg]; intro h; rw [HNO.out hm] at h; exact absurd h.1 (by decide)
            have HNONE := Lib.hid hnone
            clear hm hnone
            go_wp2_with (first | (go_at_call 49; refine (HC.out _).mono ?_; rintro e w' ⟨rfl, rfl⟩; rw [HM.out]))
            exact bodyPost_ret (v := .tuple #[.slice none 0 0, .bool false]) (by simp [results, Tryz.results48, go_sem]) rfl (wideOut_no HNONE.out HG6.out)
        · have r2 : ¬ (k1 : Int) < (xs.length : Int) := by omega
          have hall : (natInts xs).all (mayS 12) = true := by
            have := HALL.out
            rwa [List.take_of_length_le (by omega)] at this
          have HU := Lib.hid (r06Utf8_any (.slice a6 xs.length c6) xs · · (fun n hn => by have := HXS.out n hn; omega) (by omega))
          have HW2 : wideR b = if encAll xs = b then some xs else none := by rw [HW.out, hall]; simp
          have HWW := Lib.hid HW2
          have hb1 : Bytes wr.drew (.slice a b.length cap) b := (HB.out.old HG6.out).old ((Fr.refl wr).drew)
          have hv1 : Ints wr.drew (.slice a6 xs.length c6) (natInts xs) := HV6.out.old ((Fr.refl wr).drew)
          have G1 : Fr (fun _ => False) w wr.drew := HG6.out.drew
          have S := str_of hb1
          have HB1 := Lib.hid hb1
          have HV1 := Lib.hid hv1
          have HG1 := Lib.hid G1
          clear hall HW2 hb1 hv1 G1 HW HB HV6 HG6 HO6 HX HZ HXS HALL HG HG2
          go_upto_region 25 with fail
          have hF0 : ∀ w5, Fr (fun _ => False) wr.drew w5 → (Go.convert 23 9 (.slice a b.length cap)).run Tryz.prog w5 = .ok (str b) w5 := fun w5 F5 => str_of (HB1.out.old F5)
          have HF0 := Lib.hid hF0
          clear hF0
          by_cases hq : encAll xs = b
          · have z1 : (encAll xs == b) = true := beq_iff_eq.2 hq
            have z2 : (encAll xs != b) = false := by rw [bne, z1]; rfl
            have HR := Lib.hid (show wideR b = some xs by rw [HWW.out, if_pos hq])
            clear hq
            go_region_with (first
              | (go_at_call 28; refine (HU.out _ HV1.out).mono ?_; rintro e w5 ⟨v5, rfl, ho5, F5⟩; obtain ⟨a5, m5, c5, rfl, rfl⟩ := own_shape ho5; have S5 := HF0.out _ F5; have C5 := str_of (Vals.of_own ho5).1))
            all_goals
              have hvv : Ints w5 (.slice a6 xs.length c6) (natInts xs) := HV1.out.old F5
              have HVV := Lib.hid hvv
              have HG5 := Lib.hid (HG1.out.trans F5)
              clear hvv F5 ho5 S S5 C5
              go_wp2_with fail
              refine bodyPost_ret (v := .tuple #[.slice a6 xs.length c6, .bool true]) (by simp [results, Tryz.results48, go_sem]) rfl ⟨_, by rw [HR.out]; rfl, by rw [HR.out]; exact HVV.out, HG5.out⟩
          · have z1 : (encAll xs == b) = false := beq_eq_false_iff_ne.2 hq
            have z2 : (encAll xs != b) = true := by rw [bne, z1]; rfl
            have HR := Lib.hid (show wideR b = none by rw [HWW.out, if_neg hq])
            clear hq
            go_region_with (first
              | (go_at_call 28; refine (HU.out _ HV1.out).mono ?_; rintro e w5 ⟨v5, rfl, ho5, F5⟩; obtain ⟨a5, m5, c5, rfl, rfl⟩ := own_shape ho5; have S5 := HF0.out _ F5; have C5 := str_of (Vals.of_own ho5).1))
            all_goals
              have HG5 := Lib.hid (HG1.out.trans F5)
              clear F5 ho5 S S5 C5
              go_wp2_with fail
              exact bodyPost_ret (v := .tuple #[.slice none 0 0, .bool false]) (by simp [results, Tryz.results48, go_sem]) rfl (wideOut_no HR.out HG5.out)
end Go.Proofs.YtgffhiopbnkjbaaGreatDoor

namespace Go.Q
open Go Go.RowKit
/-- A text's signs, as the reference reads them. -/
def sigR (k : Int) (b : List UInt8) : Option (List Int) :=
  if kindOk k = true then
    (if k = 12 then (wideR b).map natInts else
      if k = 30 ∧ b.length % 2 = 1 then none else if (signsS k b).all (mayS k) = true then some (signsS k b) else none)
  else none
theorem sigR_ok {k : Int} {b : List UInt8} {l : List Int} (h : sigR k b = some l) : rightS k b = true ∧ signsS k b = l := by
  unfold sigR at h
  split at h
  · rename_i hk
    split at h
    · rename_i h12
      subst h12
      cases hw : wideR b with
      | none => rw [hw] at h; cases h
      | some ns =>
        rw [hw] at h
        simp only [Option.map_some, Option.some.injEq] at h
        have := wideR_ok hw
        exact ⟨this.2.2.2, this.2.2.1.trans h⟩
    · split at h
      · cases h
      · split at h
        · rename_i ha
          simp only [Option.some.injEq] at h
          exact ⟨by unfold rightS; rw [hk, ha]; rfl, h⟩
        · cases h
  · cases h
theorem pairs_snoc (x y : UInt8) : ∀ (l : List UInt8), l.length % 2 = 0 → pairsS (l ++ [x, y]) = pairsS l ++ [((x.toNat * 256 + y.toNat : Nat) : Int)]
  | [], _ => rfl
  | [_], h => by simp at h
  | a :: b :: t, h => by
    have := pairs_snoc x y t (by simp at h; omega)
    simp only [List.cons_append, pairsS, this]
theorem pairs_take {b : List UInt8} {m : Nat} {x y : UInt8} (hx : b[2 * m]? = some x) (hy : b[2 * m + 1]? = some y) : pairsS (b.take (2 * (m + 1))) = pairsS (b.take (2 * m)) ++ [((x.toNat * 256 + y.toNat : Nat) : Int)] := by
  have h1 : b.take (2 * m + 1) = b.take (2 * m) ++ [x] := by rw [List.take_add_one, hx]; rfl
  have h2 : b.take (2 * m + 2) = b.take (2 * m + 1) ++ [y] := by rw [show 2 * m + 2 = 2 * m + 1 + 1 from rfl, List.take_add_one, hy]; rfl
  rw [show 2 * (m + 1) = 2 * m + 2 from by omega, h2, h1, List.append_assoc]
  refine pairs_snoc x y _ ?_
  have := (List.getElem?_eq_some_iff.1 hx).1
  rw [List.length_take]
  omega
theorem pairs_len (b : List UInt8) (h : b.length % 2 = 0) : ∀ m, 2 * m ≤ b.length → (pairsS (b.take (2 * m))).length = m
  | 0, _ => rfl
  | m + 1, hm => by
    have hx : b[2 * m]? = some b[2 * m] := List.getElem?_eq_getElem (by omega)
    have hy : b[2 * m + 1]? = some b[2 * m + 1] := List.getElem?_eq_getElem (by omega)
    rw [pairs_take hx hy, List.length_append, pairs_len b h m (by omega)]
    rfl
end Go.Q
namespace Go.Proofs.YtgffhiopbnkjbaaGreatDoor
open Go Go.RowKit Go.Q

def RSigOut (w w' : World) (k : Int) (b : List UInt8) (e : Ending) : Prop :=
  ∃ v, e = .returned (.tuple #[v, .bool (sigR k b).isSome]) ∧ Ints w' v ((sigR k b).getD []) ∧ Fr (fun _ => False) w w'
theorem sigOut_no {w w' : World} {k : Int} {b : List UInt8} (h : sigR k b = none) (F : Fr (fun _ => False) w w') : RSigOut w w' k b (.returned (.tuple #[.slice none 0 0, .bool false])) := by
  refine ⟨_, by rw [h]; rfl, ?_, F⟩
  rw [h]
  exact Vals.nil w'

set_option maxRecDepth 20000 in
set_option maxHeartbeats 4000000 in
theorem r06Signs_12 (v : Value) (b : List UInt8) (w : World) (h : Bytes w v b) (hlim : b.length ≤ 16777216) :
    Calls Tryz.prog 9 #[.agg #[.int .i64 12, v]] w fun e w' => RSigOut w w' 12 b e := by
  obtain ⟨a, cap, rfl, -, -, hx⟩ := h.form
  have HB := Lib.hid h
  have HX := Lib.hid hx
  obtain ⟨z, hz⟩ : ∃ z, z = w.heap.size := ⟨_, rfl⟩
  have B := Blk.new w 25 #[.int .i64 12, .slice a b.length cap]
  have F0 : Fr (fun _ => False) w (w.alloc (.cells #[.int .i64 12, .slice a b.length cap] 25)) := (Fr.refl w).alloc _
  rw [← hz] at B
  have HZ := Lib.hid hz
  have HF0 := Lib.hid F0
  clear h hx hz F0
  go_enter Tryz.func9, Tryz.ntmps9
  go_upto_region 1 with fail
  rw [← HZ.out]
  generalize (w.alloc (.cells #[.int .i64 12, .slice a b.length cap] 25)) = w0 at *
  have t0 := B.cell 0
  have t1 := B.cell 1
  simp only [List.getElem?_toArray, List.getElem?_cons_succ, List.getElem?_cons_zero] at t0 t1
  have hk : Go.Q.kindOk 12 = true := rfl
  have HC := Lib.hid (r06Kind_any 12)
  have HW := Lib.hid (r06wide_any (.slice a b.length cap) b w0 (HB.out.old HF0.out) hlim)
  have hs : sigR 12 b = (wideR b).map natInts := by unfold sigR; rw [if_pos hk, if_pos rfl]
  have HS := Lib.hid hs
  have HKK := Lib.hid hk
  clear hs hk
  go_wp2_with (first | (go_at_call 47; refine (HC.out _).mono ?_; rintro e w' ⟨rfl, rfl⟩; rw [HKK.out]))
  refine HW.out.mono ?_
  rintro e w5 ⟨v5, rfl, hi5, F5⟩
  obtain ⟨a5, m5, c5, rfl⟩ : ∃ a m c, v5 = .slice a m c := by
    obtain ⟨a, c, h, -⟩ := Ints.form hi5
    exact ⟨a, _, c, h⟩
  have HI5 := Lib.hid hi5
  have HF5 := Lib.hid (HF0.out.trans F5)
  clear hi5 F5 HW HC
  go_wp2_with fail
  refine bodyPost_ret (v := .tuple #[.slice a5 m5 c5, .bool (wideR b).isSome]) (by simp [results, Tryz.results9, go_sem]) rfl (show RSigOut w w5 12 b _ from ⟨.slice a5 m5 c5, ?_, ?_, HF5.out⟩)
  · rw [HS.out]
    cases wideR b <;> rfl
  · have := HI5.out
    rw [HS.out]
    cases hw : wideR b with
    | none => rw [hw] at this; exact this
    | some ns => rw [hw] at this; exact this

set_option maxRecDepth 20000 in
set_option maxHeartbeats 4000000 in
theorem r06Signs_none (k : Int) (hk : Go.Q.kindOk k = false) (v : Value) (b : List UInt8) (w : World) (h : Bytes w v b) (_hlim : b.length ≤ 16777216) :
    Calls Tryz.prog 9 #[.agg #[.int .i64 k, v]] w fun e w' => RSigOut w w' k b e := by
  obtain ⟨a, cap, rfl, -, -, hx⟩ := h.form
  have HB := Lib.hid h
  have HX := Lib.hid hx
  obtain ⟨z, hz⟩ : ∃ z, z = w.heap.size := ⟨_, rfl⟩
  have B := Blk.new w 25 #[.int .i64 k, .slice a b.length cap]
  have F0 : Fr (fun _ => False) w (w.alloc (.cells #[.int .i64 k, .slice a b.length cap] 25)) := (Fr.refl w).alloc _
  rw [← hz] at B
  have HZ := Lib.hid hz
  have HF0 := Lib.hid F0
  clear h hx hz F0
  go_enter Tryz.func9, Tryz.ntmps9
  go_upto_region 1 with fail
  rw [← HZ.out]
  generalize (w.alloc (.cells #[.int .i64 k, .slice a b.length cap] 25)) = w0 at *
  have t0 := B.cell 0
  have t1 := B.cell 1
  simp only [List.getElem?_toArray, List.getElem?_cons_succ, List.getElem?_cons_zero] at t0 t1
  have HC := Lib.hid (r06Kind_any k)
  have hn : sigR k b = none := by unfold sigR; rw [hk]; rfl
  have HN := Lib.hid hn
  have HKK := Lib.hid hk
  clear hn hk
  go_wp2_with (first | (go_at_call 47; refine (HC.out _).mono ?_; rintro e w' ⟨rfl, rfl⟩; rw [HKK.out]))
  exact bodyPost_ret (v := .tuple #[.slice none 0 0, .bool false]) (by simp [results, Tryz.results9, go_sem]) rfl (sigOut_no HN.out HF0.out)
end Go.Proofs.YtgffhiopbnkjbaaGreatDoor

namespace Go.Proofs.YtgffhiopbnkjbaaGreatDoor
open Go Go.RowKit Go.Q
set_option maxRecDepth 20000 in
set_option maxHeartbeats 4000000 in
theorem r06Signs_30 (v : Value) (b : List UInt8) (w : World) (h : Bytes w v b) (hlim : b.length ≤ 16777216) :
    Calls Tryz.prog 9 #[.agg #[.int .i64 30, v]] w fun e w' => RSigOut w w' 30 b e := by
  obtain ⟨a, cap, rfl, -, -, hx⟩ := h.form
  have HB := Lib.hid h
  have HX := Lib.hid hx
  obtain ⟨z, hz⟩ : ∃ z, z = w.heap.size := ⟨_, rfl⟩
  have B := Blk.new w 25 #[.int .i64 30, .slice a b.length cap]
  have F0 : Fr (fun _ => False) w (w.alloc (.cells #[.int .i64 30, .slice a b.length cap] 25)) := (Fr.refl w).alloc _
  rw [← hz] at B
  have HZ := Lib.hid hz
  have HF0 := Lib.hid F0
  clear h hx hz F0
  go_enter Tryz.func9, Tryz.ntmps9
  go_upto_region 1 with fail
  rw [← HZ.out]
  generalize (w.alloc (.cells #[.int .i64 30, .slice a b.length cap] 25)) = w0 at *
  have t0 := B.cell 0
  have t1 := B.cell 1
  simp only [List.getElem?_toArray, List.getElem?_cons_succ, List.getElem?_cons_zero] at t0 t1
  have hk : Go.Q.kindOk 30 = true := rfl
  have HC := Lib.hid (r06Kind_any 30)
  have p12 : ((30 : Int) == 12) = false := rfl
  have HKK := Lib.hid hk
  have hP : signsS 30 b = pairsS b := rfl
  by_cases hodd : b.length % 2 = 1
  · have z1 : ((b.length : Int) % 2 == 1) = true := beq_iff_eq.2 (by omega)
    have z2 : (b.length % 2 == 1) = true := beq_iff_eq.2 hodd
    have hn : sigR 30 b = none := by unfold sigR; rw [if_pos hk, if_neg (by decide), if_pos ⟨rfl, hodd⟩]
    have HN := Lib.hid hn
    clear hn hk hP
    go_wp2_with (first | (go_at_call 47; refine (HC.out _).mono ?_; rintro e w' ⟨rfl, rfl⟩; rw [HKK.out]))
    exact bodyPost_ret (v := .tuple #[.slice none 0 0, .bool false]) (by simp [results, Tryz.results9, go_sem]) rfl (sigOut_no HN.out HF0.out)
  · have z1 : ((b.length : Int) % 2 == 1) = false := beq_eq_false_iff_ne.2 (by omega)
    have z2 : (b.length % 2 == 1) = false := beq_eq_false_iff_ne.2 hodd
    have HP := Lib.hid hP
    have HB0 := Lib.hid B
    clear hk hP
    go_wp2_with (first | (go_at_call 47; refine (HC.out _).mono ?_; rintro e w' ⟨rfl, rfl⟩; rw [HKK.out]))
    clear t0 t1
    go_loopg [4, 5] b.length (fun g l i wr => ∃ (j : Nat) (a6 : Option Addr) (n6 c6 : Nat), g = b.length - j ∧ j ≤ b.length ∧ j % 2 = 0 ∧ l = .slice a6 n6 c6 ∧ i = .int .i64 j ∧ wr.ownsRow (z + 1) 3 1 (.slice a6 n6 c6) n6 (intCells (pairsS (b.take j))) ∧ Fr (fun _ => False) w wr ∧ Blk wr z 25 #[.int .i64 30, .slice a b.length cap] ∧ 2 * n6 = j)
    case atStart => exact ⟨0, none, 0, 0, rfl, Nat.zero_le _, rfl, rfl, rfl, ⟨rfl, .inl ⟨rfl, rfl⟩⟩, HF0.out, HB0.out, rfl⟩
    case round =>
      obtain ⟨j, a6, N6, c6, hg, hj, hj2, rfl, rfl, ho6, G6, B, hN6⟩ := hrel
      have HG := Lib.hid hg
      have HO6 := Lib.hid ho6
      have HG6 := Lib.hid G6
      have t0 := B.cell 0
      have t1 := B.cell 1
      simp only [List.getElem?_toArray, List.getElem?_cons_succ, List.getElem?_cons_zero] at t0 t1
      clear hg ho6 G6
      by_cases hjl : j < b.length
      · obtain ⟨bb, oo, rfl, hy⟩ := HX.out (by omega)
        obtain ⟨x, hxj⟩ : ∃ x, b[j]? = some x := ⟨_, List.getElem?_eq_getElem hjl⟩
        obtain ⟨y, hyj⟩ : ∃ y, b[j + 1]? = some y := ⟨_, List.getElem?_eq_getElem (by omega)⟩
        have e1 := HG6.out.cell (hy j x hxj) (fun h => h)
        have e2 := HG6.out.cell (hy (j + 1) y hyj) (fun h => h)
        have hT : pairsS (b.take (j + 2)) = pairsS (b.take j) ++ [256 * (x.toNat : Int) + (y.toNat : Int)] := by
          obtain ⟨m, rfl⟩ : ∃ m, j = 2 * m := ⟨j / 2, by omega⟩
          have := pairs_take hxj hyj
          rw [show 2 * (m + 1) = 2 * m + 2 from by omega] at this
          rw [this]
          congr 2
          omega
        have hx1 := x.toNat_lt
        have hx2 := y.toNat_lt
        generalize x.toNat = xx at *
        generalize y.toNat = yy at *
        have w1 : wrap64 (xx : Int) = (xx : Int) := by unfold wrap64; omega
        have w2 : wrap64 (yy : Int) = (yy : Int) := by unfold wrap64; omega
        have HT := Lib.hid hT
        have r1 : (0 : Int) ≤ (j : Int) := by omega
        have r2 : (j : Int) < (b.length : Int) := by omega
        have r3 : (j : Int) + 1 < (b.length : Int) := by omega
        have r4 : (0 : Int) ≤ (j : Int) + 1 := by omega
        have r5 : ((j : Int) + 1).toNat = j + 1 := by omega
        have v1 : IntKind.i64.wrap ((j : Int) + 1) = (j : Int) + 1 := by rw [IntKind.wrap_i64]; omega
        have v2 : IntKind.i64.wrap (256 * (xx : Int)) = 256 * (xx : Int) := by rw [IntKind.wrap_i64]; omega
        have v3 : IntKind.i64.wrap (256 * (xx : Int) + (yy : Int)) = 256 * (xx : Int) + (yy : Int) := by rw [IntKind.wrap_i64]; omega
        have v4 : IntKind.i64.wrap (xx : Int) = (xx : Int) := by rw [IntKind.wrap_i64]; omega
        have v5 : IntKind.i64.wrap (yy : Int) = (yy : Int) := by rw [IntKind.wrap_i64]; omega
        have hb0 : z + 1 ≤ wr.heap.size := B.lt
        have hvb := (Vals.of_own HO6.out).2
        obtain ⟨a7, c7, w7, hr7, ho7, F7, -⟩ := add_int HO6.out hb0 (by omega) (256 * (xx : Int) + (yy : Int)) wr.heap.size (((Fr.refl (S := fun _ => False) wr).drew).alloc (.cells #[.int .i64 (256 * (xx : Int) + (yy : Int))] 3)) (Blk.new wr.drew 3 #[.int .i64 (256 * (xx : Int) + (yy : Int))])
        have G7 := HG6.out.trans' F7 (fun i hi e => absurd hi (by have := hvb i e; have := HZ.out; omega))
        have B7 := B.fr F7 (fun e => by have := hvb z e; omega)
        rw [← HT.out] at ho7
        have HO7 := Lib.hid ho7
        have HG7 := Lib.hid G7
        have HB7 := Lib.hid B7
        have HRUN := Lib.hid hr7
        clear ho7 G7 B7 hr7 F7 hvb hT hxj hyj hy B
        go_wp2_with fail
        go_region_law (first | (refine step_append_run (by rfl) (.tmp 35) (.tmp 51) 22 (by rfl) _ w7 (by exact HRUN.out) ?_) | fail)
        all_goals
          go_wp2_with fail
          go_roundg (b.length - (j + 2))
          case measure => rw [HG.out]; omega
          case rel => exact ⟨j + 2, a7, N6 + 1, c7, rfl, by omega, by omega, rfl, by go_num, HO7.out, HG7.out, HB7.out, by omega⟩
      · obtain rfl : j = b.length := by omega
        rw [List.take_length] at HO6
        have r2 : ¬ (b.length : Int) < (b.length : Int) := by omega
        obtain ⟨L, hL⟩ : ∃ L, L = signsS 30 b := ⟨_, rfl⟩
        have hsig : sigR 30 b = if L.all (mayS 30) = true then some L else none := by rw [hL]; unfold sigR; rw [if_pos HKK.out, if_neg (by decide), if_neg (fun h => hodd h.2)]
        have hoL := HO6.out
        rw [← HP.out, ← hL] at hoL
        have h2N := hN6
        clear hL hN6
        have hN6 : N6 = L.length := by have := hoL.1; rw [intCells_len] at this; omega
        subst hN6
        have hv6 := (Vals.of_own hoL).1
        obtain ⟨a', cap', he, -, -, hz6⟩ := Ints.form hv6
        simp only [Value.slice.injEq, true_and] at he
        obtain ⟨rfl, rfl⟩ := he
        have HSIG := Lib.hid hsig
        have HV6 := Lib.hid hv6
        have HZ6 := Lib.hid hz6
        have HBK := Lib.hid B
        clear hsig hv6 hz6 hoL HX HG HO6 HB
        go_wp2_with fail
        obtain ⟨wo, hwo⟩ : ∃ wo : World, wo = wr := ⟨_, rfl⟩
        obtain rfl := hwo
        go_loopg [7] L.length (fun g q wi => ∃ k1 : Nat, g = L.length - k1 ∧ k1 ≤ L.length ∧ q = .int .i64 k1 ∧ (L.take k1).all (mayS 30) = true ∧ Fr (fun _ => False) wo wi)
        case atStart => exact ⟨0, rfl, Nat.zero_le _, rfl, rfl, Fr.refl _⟩
        case round =>
          obtain ⟨k1, hg, hk1, rfl, hall, F8⟩ := hrel
          have HG2 := Lib.hid hg
          have HALL := Lib.hid hall
          have B8 := HBK.out.fr F8 (fun h => h)
          have HF8 := Lib.hid F8
          have t0 := B8.cell 0
          have t1 := B8.cell 1
          simp only [List.getElem?_toArray, List.getElem?_cons_succ, List.getElem?_cons_zero] at t0 t1
          clear hg hall
          by_cases hkl : k1 < L.length
          · obtain ⟨b8, o8, rfl, hy8⟩ := HZ6.out (by omega)
            obtain ⟨n, hn⟩ : ∃ n, L[k1]? = some n := ⟨_, List.getElem?_eq_getElem hkl⟩
            have en := F8.cell (hy8 k1 n hn) (fun h => h)
            have hat : (L.take (k1 + 1)).all (mayS 30) = ((L.take k1).all (mayS 30) && mayS 30 n) := by
              rw [List.take_add_one, hn]
              simp
            have hno : mayS 30 n = false → L.all (mayS 30) = false := fun h => by
              rw [List.all_eq_false]
              exact ⟨n, List.mem_of_getElem? hn, by simp [h]⟩
            have HAT := Lib.hid hat
            have HNO := Lib.hid hno
            have r1 : (0 : Int) ≤ (k1 : Int) := by omega
            have r2 : (k1 : Int) < (L.length : Int) := by omega
            clear hy8 hn hat hno F8
            rcases Bool.eq_false_or_eq_true (mayS 30 n) with hm | hm
            · have hC : ∀ w, Calls Tryz.prog 49 #[.int .i64 30, .int .i64 n] w fun e w' => e = .returned (.bool true) ∧ w' = w := fun w => (r06May_any 30 n w).mono (by rintro e w' ⟨rfl, rfl⟩; exact ⟨by rw [hm], rfl⟩)
              have HC := Lib.hid hC
              have HM := Lib.hid hm
              clear hm hC
              go_wp2_with fail
              go_quiet ((go_at_call 49; exact Calls.quiet_of_same (HC.out _)))
              go_wp2_with fail
              go_roundg (L.length - (k1 + 1))
              case measure => rw [HG2.out]; omega
              case rel => exact ⟨k1 + 1, rfl, by omega, by go_num, by rw [HAT.out, HALL.out, HM.out]; rfl, HF8.out.drewN _⟩
            · have hC : ∀ w, Calls Tryz.prog 49 #[.int .i64 30, .int .i64 n] w fun e w' => e = .returned (.bool false) ∧ w' = w := fun w => (r06May_any 30 n w).mono (by rintro e w' ⟨rfl, rfl⟩; exact ⟨by rw [hm], rfl⟩)
              have HC := Lib.hid hC
              have hnone : sigR 30 b = none := by rw [HSIG.out, if_neg]; intro h; rw [HNO.out hm] at h; exact absurd h (by decide)
              have HNONE := Lib.hid hnone
              clear hm hnone hC
              go_wp2_with fail
              go_quiet ((go_at_call 49; exact Calls.quiet_of_same (HC.out _)))
              go_wp2_with fail
              exact bodyPost_ret (v := .tuple #[.slice none 0 0, .bool false]) (by simp [results, Tryz.results9, go_sem]) rfl (sigOut_no HNONE.out ((HG6.out.trans HF8.out).drewN _))
          · have r2 : ¬ (k1 : Int) < (L.length : Int) := by omega
            have hsome : sigR 30 b = some L := by
              have := HALL.out
              rw [List.take_of_length_le (by omega)] at this
              rw [HSIG.out, if_pos this]
            have HSOME := Lib.hid hsome
            have hvv : Ints wr (.slice a6 L.length c6) L := HV6.out.old F8
            have HVV := Lib.hid hvv
            clear hsome hvv F8
            go_wp2_with fail
            exact bodyPost_ret (v := .tuple #[.slice a6 L.length c6, .bool true]) (by simp [results, Tryz.results9, go_sem]) rfl ⟨_, by rw [HSOME.out]; rfl, by rw [HSOME.out]; exact HVV.out, HG6.out.trans HF8.out⟩
end Go.Proofs.YtgffhiopbnkjbaaGreatDoor

namespace Go.Proofs.YtgffhiopbnkjbaaGreatDoor
open Go Go.RowKit Go.Q
set_option maxRecDepth 20000 in
set_option maxHeartbeats 4000000 in
theorem r06Signs_one (k : Int) (hk : Go.Q.kindOk k = true) (h12 : k ≠ 12) (h30 : k ≠ 30) (v : Value) (b : List UInt8) (w : World) (h : Bytes w v b) (hlim : b.length ≤ 16777216) :
    Calls Tryz.prog 9 #[.agg #[.int .i64 k, v]] w fun e w' => RSigOut w w' k b e := by
  obtain ⟨a, cap, rfl, -, -, hx⟩ := h.form
  have HB := Lib.hid h
  have HX := Lib.hid hx
  obtain ⟨z, hz⟩ : ∃ z, z = w.heap.size := ⟨_, rfl⟩
  have B := Blk.new w 25 #[.int .i64 k, .slice a b.length cap]
  have F0 : Fr (fun _ => False) w (w.alloc (.cells #[.int .i64 k, .slice a b.length cap] 25)) := (Fr.refl w).alloc _
  rw [← hz] at B
  have HZ := Lib.hid hz
  have HF0 := Lib.hid F0
  clear h hx hz F0
  go_enter Tryz.func9, Tryz.ntmps9
  go_upto_region 1 with fail
  rw [← HZ.out]
  generalize (w.alloc (.cells #[.int .i64 k, .slice a b.length cap] 25)) = w0 at *
  have t0 := B.cell 0
  have t1 := B.cell 1
  simp only [List.getElem?_toArray, List.getElem?_cons_succ, List.getElem?_cons_zero] at t0 t1
  have HC := Lib.hid (r06Kind_any k)
  have p12 : (k == 12) = false := beq_eq_false_iff_ne.2 h12
  have HKK := Lib.hid hk
  have p30 : (k == 30) = false := beq_eq_false_iff_ne.2 h30
  have HB0 := Lib.hid B
  have hP : signsS k b = b.map (fun x => (x.toNat : Int)) := by unfold signsS; rw [if_neg h12, if_neg h30]
  have HP := Lib.hid hP
  clear hk hP
  go_wp2_with (first | (go_at_call 47; refine (HC.out _).mono ?_; rintro e w' ⟨rfl, rfl⟩; rw [HKK.out]))
  clear t0 t1
  go_loopg [4, 6] b.length (fun g l i wr => ∃ (j : Nat) (a6 : Option Addr) (c6 : Nat), g = b.length - j ∧ j ≤ b.length ∧ l = .slice a6 j c6 ∧ i = .int .i64 j ∧ wr.ownsRow (z + 1) 3 1 (.slice a6 j c6) j (intCells ((b.take j).map (fun x => (x.toNat : Int)))) ∧ Fr (fun _ => False) w wr ∧ Blk wr z 25 #[.int .i64 k, .slice a b.length cap])
  case atStart => exact ⟨0, none, 0, rfl, Nat.zero_le _, rfl, rfl, ⟨rfl, .inl ⟨rfl, rfl⟩⟩, HF0.out, HB0.out⟩
  case round =>
    obtain ⟨j, a6, c6, hg, hj, rfl, rfl, ho6, G6, B⟩ := hrel
    have HG := Lib.hid hg
    have HO6 := Lib.hid ho6
    have HG6 := Lib.hid G6
    have t0 := B.cell 0
    have t1 := B.cell 1
    simp only [List.getElem?_toArray, List.getElem?_cons_succ, List.getElem?_cons_zero] at t0 t1
    clear hg ho6 G6
    by_cases hjl : j < b.length
    · obtain ⟨bb, oo, rfl, hy⟩ := HX.out (by omega)
      obtain ⟨x, hxj⟩ : ∃ x, b[j]? = some x := ⟨_, List.getElem?_eq_getElem hjl⟩
      have e1 := HG6.out.cell (hy j x hxj) (fun h => h)
      have hT : (b.take (j + 1)).map (fun x => (x.toNat : Int)) = (b.take j).map (fun x => (x.toNat : Int)) ++ [(x.toNat : Int)] := by
        rw [List.take_add_one, hxj]
        simp
      have hx1 := x.toNat_lt
      generalize x.toNat = xx at *
      have w1 : wrap64 (xx : Int) = (xx : Int) := by unfold wrap64; omega
      have HT := Lib.hid hT
      have r1 : (0 : Int) ≤ (j : Int) := by omega
      have r2 : (j : Int) < (b.length : Int) := by omega
      have hb0 : z + 1 ≤ wr.heap.size := B.lt
      have hvb := (Vals.of_own HO6.out).2
      obtain ⟨a7, c7, w7, hr7, ho7, F7, -⟩ := add_int HO6.out hb0 (by omega) (xx : Int) wr.heap.size ((Fr.refl (S := fun _ => False) wr).alloc (.cells #[.int .i64 (xx : Int)] 3)) (Blk.new wr 3 #[.int .i64 (xx : Int)])
      have G7 := HG6.out.trans' F7 (fun i hi e => absurd hi (by have := hvb i e; have := HZ.out; omega))
      have B7 := B.fr F7 (fun e => by have := hvb z e; omega)
      rw [← HT.out] at ho7
      have HO7 := Lib.hid ho7
      have HG7 := Lib.hid G7
      have HB7 := Lib.hid B7
      have HRUN := Lib.hid hr7
      clear ho7 G7 B7 hr7 F7 hvb hT hxj hy B
      go_wp2_with (at_builtin; refine wpList_append_run (by rfl) (.tmp 60) (.tmp 67) 22 (by rfl) _ w7 (by exact HRUN.out) ?_)
      go_roundg (b.length - (j + 1))
      case measure => rw [HG.out]; omega
      case rel => exact ⟨j + 1, a7, c7, rfl, by omega, rfl, by go_num, HO7.out, HG7.out, HB7.out⟩
    · obtain rfl : j = b.length := by omega
      have r2 : ¬ (b.length : Int) < (b.length : Int) := by omega
      obtain ⟨L, hL⟩ : ∃ L, L = signsS k b := ⟨_, rfl⟩
      have hsig : sigR k b = if L.all (mayS k) = true then some L else none := by rw [hL]; unfold sigR; rw [if_pos HKK.out, if_neg h12, if_neg (fun h => h30 h.1)]
      have hoL := HO6.out
      rw [List.take_length, ← HP.out, ← hL] at hoL
      obtain ⟨N6, hNN⟩ : ∃ N6, N6 = b.length := ⟨_, rfl⟩
      have hoL2 : wr.ownsRow (z + 1) 3 1 (.slice a6 N6 c6) N6 (intCells L) := by rw [hNN]; exact hoL
      have hNL : b.length = L.length := by have := hoL.1; rw [intCells_len] at this; omega
      have HBB := Lib.hid hNL
      clear hL hNN hoL
      rw [hNL] at r2 ⊢
      replace hoL := hoL2
      clear hoL2
      have hN6 : N6 = L.length := by have := hoL.1; rw [intCells_len] at this; omega
      subst hN6
      have hv6 := (Vals.of_own hoL).1
      obtain ⟨a', cap', he, -, -, hz6⟩ := Ints.form hv6
      simp only [Value.slice.injEq, true_and] at he
      obtain ⟨rfl, rfl⟩ := he
      have HSIG := Lib.hid hsig
      have HV6 := Lib.hid hv6
      have HZ6 := Lib.hid hz6
      have HBK := Lib.hid B
      clear hsig hv6 hz6 hoL HX HG HO6 HB
      go_wp2_with fail
      obtain ⟨wo, hwo⟩ : ∃ wo : World, wo = wr := ⟨_, rfl⟩
      obtain rfl := hwo
      go_loopg [7] L.length (fun g q wi => ∃ k1 : Nat, g = L.length - k1 ∧ k1 ≤ L.length ∧ q = .int .i64 k1 ∧ (L.take k1).all (mayS k) = true ∧ Fr (fun _ => False) wo wi)
      case atStart => exact ⟨0, rfl, Nat.zero_le _, rfl, rfl, Fr.refl _⟩
      case round =>
        obtain ⟨k1, hg, hk1, rfl, hall, F8⟩ := hrel
        have HG2 := Lib.hid hg
        have HALL := Lib.hid hall
        have B8 := HBK.out.fr F8 (fun h => h)
        have HF8 := Lib.hid F8
        have t0 := B8.cell 0
        have t1 := B8.cell 1
        simp only [List.getElem?_toArray, List.getElem?_cons_succ, List.getElem?_cons_zero] at t0 t1
        clear hg hall
        by_cases hkl : k1 < L.length
        · obtain ⟨b8, o8, rfl, hy8⟩ := HZ6.out (by omega)
          obtain ⟨n, hn⟩ : ∃ n, L[k1]? = some n := ⟨_, List.getElem?_eq_getElem hkl⟩
          have en := F8.cell (hy8 k1 n hn) (fun h => h)
          have hat : (L.take (k1 + 1)).all (mayS k) = ((L.take k1).all (mayS k) && mayS k n) := by
            rw [List.take_add_one, hn]
            simp
          have hno : mayS k n = false → L.all (mayS k) = false := fun h => by
            rw [List.all_eq_false]
            exact ⟨n, List.mem_of_getElem? hn, by simp [h]⟩
          have HAT := Lib.hid hat
          have HNO := Lib.hid hno
          have r1 : (0 : Int) ≤ (k1 : Int) := by omega
          have r2 : (k1 : Int) < (L.length : Int) := by omega
          clear hy8 hn hat hno F8
          rcases Bool.eq_false_or_eq_true (mayS k n) with hm | hm
          · have hC : ∀ w, Calls Tryz.prog 49 #[.int .i64 k, .int .i64 n] w fun e w' => e = .returned (.bool true) ∧ w' = w := fun w => (r06May_any k n w).mono (by rintro e w' ⟨rfl, rfl⟩; exact ⟨by rw [hm], rfl⟩)
            have HC := Lib.hid hC
            have HM := Lib.hid hm
            clear hm hC
            go_wp2_with fail
            go_quiet ((go_at_call 49; exact Calls.quiet_of_same (HC.out _)))
            go_wp2_with fail
            go_roundg (L.length - (k1 + 1))
            case measure => rw [HG2.out]; omega
            case rel => exact ⟨k1 + 1, rfl, by omega, by go_num, by rw [HAT.out, HALL.out, HM.out]; rfl, HF8.out.drewN _⟩
          · have hC : ∀ w, Calls Tryz.prog 49 #[.int .i64 k, .int .i64 n] w fun e w' => e = .returned (.bool false) ∧ w' = w := fun w => (r06May_any k n w).mono (by rintro e w' ⟨rfl, rfl⟩; exact ⟨by rw [hm], rfl⟩)
            have HC := Lib.hid hC
            have hnone : sigR k b = none := by rw [HSIG.out, if_neg]; intro h; rw [HNO.out hm] at h; exact absurd h (by decide)
            have HNONE := Lib.hid hnone
            clear hm hnone hC
            go_wp2_with fail
            go_quiet ((go_at_call 49; exact Calls.quiet_of_same (HC.out _)))
            go_wp2_with fail
            exact bodyPost_ret (v := .tuple #[.slice none 0 0, .bool false]) (by simp [results, Tryz.results9, go_sem]) rfl (sigOut_no HNONE.out ((HG6.out.trans HF8.out).drewN _))
        · have r2 : ¬ (k1 : Int) < (L.length : Int) := by omega
          have hsome : sigR k b = some L := by
            have := HALL.out
            rw [List.take_of_length_le (by omega)] at this
            rw [HSIG.out, if_pos this]
          have HSOME := Lib.hid hsome
          have hvv : Ints wr (.slice a6 L.length c6) L := HV6.out.old F8
          have HVV := Lib.hid hvv
          clear hsome hvv F8
          go_wp2_with fail
          exact bodyPost_ret (v := .tuple #[.slice a6 L.length c6, .bool true]) (by simp [results, Tryz.results9, go_sem]) rfl ⟨_, by rw [HSOME.out]; rfl, by rw [HSOME.out]; exact HVV.out, HG6.out.trans HF8.out⟩
end Go.Proofs.YtgffhiopbnkjbaaGreatDoor

namespace Go.Proofs.YtgffhiopbnkjbaaGreatDoor
open Go Go.RowKit Go.Q
theorem r06Signs_any (k : Int) (v : Value) (b : List UInt8) (w : World) (h : Bytes w v b) (hlim : b.length ≤ 16777216) :
    Calls Tryz.prog 9 #[.agg #[.int .i64 k, v]] w fun e w' => RSigOut w w' k b e := by
  rcases Bool.eq_false_or_eq_true (Go.Q.kindOk k) with hk | hk
  · by_cases h12 : k = 12
    · subst h12
      exact r06Signs_12 v b w h hlim
    · by_cases h30 : k = 30
      · subst h30
        exact r06Signs_30 v b w h hlim
      · exact r06Signs_one k hk h12 h30 v b w h hlim
  · exact r06Signs_none k hk v b w h hlim
end Go.Proofs.YtgffhiopbnkjbaaGreatDoor

namespace Go.Q
open Go Go.RowKit
/-- The bytes of the text of signs. -/
def ofR (k : Int) (l : List Int) : Except Int (List UInt8) := if kindOk k = true then (if l.all (mayS k) = true then .ok (ofS k l) else .error 6) else .error 1
theorem may_range {k n : Int} (h : mayS k n = true) : 0 ≤ n ∧ n ≤ 1114111 ∧ (k ≠ 12 → n ≤ 65535) ∧ (k ≠ 12 → k ≠ 30 → n ≤ 255) := by
  unfold mayS at h
  by_cases c1 : k = 12
  · rw [if_pos c1, Bool.and_eq_true] at h
    have := of_decide_eq_true h.1
    omega
  rw [if_neg c1] at h
  by_cases c2 : k = 19
  · rw [if_pos c2, Bool.and_eq_true] at h
    have := of_decide_eq_true h.1
    omega
  rw [if_neg c2] at h
  by_cases c3 : k = 20
  · rw [if_pos c3] at h
    have := of_decide_eq_true h
    omega
  rw [if_neg c3] at h
  by_cases c4 : k = 22
  · rw [if_pos c4] at h
    have := of_decide_eq_true h
    omega
  rw [if_neg c4] at h
  by_cases c5 : k = 26
  · rw [if_pos c5] at h
    have := of_decide_eq_true h
    omega
  rw [if_neg c5] at h
  by_cases c6 : k = 30
  · rw [if_pos c6, Bool.and_eq_true] at h
    have := of_decide_eq_true h.1
    omega
  rw [if_neg c6] at h
  cases h
theorem nats_of {l : List Int} (h : ∀ n ∈ l, 0 ≤ n) : natInts (l.map Int.toNat) = l := by
  unfold natInts
  rw [List.map_map]
  exact (List.map_congr_left (fun m hm => by have := h m hm; simp; omega)).trans (List.map_id l)
theorem ofS_12 (l : List Int) : ofS 12 l = encAll (l.map Int.toNat) := by
  simp only [ofS, encAll, List.flatMap_map]
  rfl
end Go.Q
namespace Go.Proofs.YtgffhiopbnkjbaaGreatDoor
open Go Go.RowKit Go.Q

def ROfOut (w w' : World) (k : Int) (l : List Int) (e : Ending) : Prop :=
  match ofR k l with
  | .error x => e = .returned (.tuple #[.agg #[.int .i64 0, .slice none 0 0], .int .i64 x]) ∧ x ≠ 0 ∧ Fr (fun _ => False) w w'
  | .ok b => ∃ u, e = .returned (.tuple #[.agg #[.int .i64 k, u], .int .i64 0]) ∧ w'.ownsRow w.heap.size 5 1 u b.length (Lib.byteCells b) ∧ Fr (fun _ => False) w w'

/-- A byte more in a text's bytes. -/
theorem r06_put {w wr : World} {z y N : Nat} {a6 : Option Addr} {c6 : Nat} {xs : List UInt8} (k : Int) (x : Nat) (hx : x < 256) (BZ : Blk wr z 25 #[.int .i64 0, .slice none 0 0]) (BY : Blk wr y 25 #[.int .i64 k, .slice a6 N c6]) (hzy : z < y)
    (ho : wr.ownsRow (y + 1) 5 1 (.slice a6 N c6) N (Lib.byteCells xs)) (F : Fr (fun _ => False) w wr) (hw : w.heap.size ≤ z) (hN : N ≤ 1000000000) :
    ∃ a7 c7 w7, (Builtin.append_ #[23, 23] 23 #[.slice a6 N c6, .slice (some ⟨wr.heap.size, 0, none⟩) 1 1]).run Tryz.prog (wr.drew.alloc (.cells #[.int .u8 x] 5)) = .ok (.slice a7 (N + 1) c7) w7 ∧
      w7.frozen? ⟨y, 1, none⟩ = false ∧ w7.cell? ⟨y, 1, none⟩ = some (.slice a6 N c6) ∧
      Blk (w7.setCell ⟨y, 1, none⟩ (.slice a7 (N + 1) c7)) z 25 #[.int .i64 0, .slice none 0 0] ∧
      Blk (w7.setCell ⟨y, 1, none⟩ (.slice a7 (N + 1) c7)) y 25 #[.int .i64 k, .slice a7 (N + 1) c7] ∧
      (w7.setCell ⟨y, 1, none⟩ (.slice a7 (N + 1) c7)).ownsRow (y + 1) 5 1 (.slice a7 (N + 1) c7) (N + 1) (Lib.byteCells (xs ++ [UInt8.ofNat x])) ∧
      Fr (fun _ => False) w (w7.setCell ⟨y, 1, none⟩ (.slice a7 (N + 1) c7)) := by
  have hb : y + 1 ≤ wr.drew.heap.size := BY.lt
  have ho1 : wr.drew.ownsRow (y + 1) 5 1 (.slice a6 N c6) N (Lib.byteCells xs) := ownsRow_fr ho ((Fr.refl (S := fun _ => False) wr).drew) (fun _ _ h => h)
  obtain ⟨a7, c7, w7, hr, ho7, F7⟩ := add_bytes ho1 [UInt8.ofNat x] #[.int .u8 x] (by simp only [Lib.byteCells, List.map_cons, List.map_nil, Go.Q.u8 x hx]) 1 rfl (by omega) hb
  have hvb := (Vals.of_own ho1).2
  have hn7 : ∀ q, (Value.slice a7 (N + 1) c7).ownBlock = some q → y + 1 ≤ q := fun q hq => ((Vals.of_own ho7).2 q hq).1
  have BZ7 := (BZ.drew).fr F7 (fun e => by have := (hvb z e).1; omega)
  have BY7 := (BY.drew).fr F7 (fun e => by have := (hvb y e).1; omega)
  have F8 : Fr (fun q => q = y) w7 (w7.setCell ⟨y, 1, none⟩ (.slice a7 (N + 1) c7)) := Fr.setCell (S := fun q => q = y) (p := ⟨y, 1, none⟩) (Fr.refl w7) (fun _ => rfl) _
  have BY8 := BY7.set 1 (.slice a7 (N + 1) c7)
  have y1 := BY7.cell 1
  simp at BY8 y1
  exact ⟨a7, c7, w7, hr, BY7.frozen 1, y1, BZ7.fr F8 (by omega), BY8, ownsRow_fr ho7 F8 (fun q hq e => by have := hn7 q hq; omega),
    ((F.trans (Fr.refl wr).drew).trans' F7 (fun i hi e => by have := (hvb i e).1; omega)).trans' F8 (fun i hi e => by omega)⟩

set_option maxRecDepth 20000 in
set_option maxHeartbeats 4000000 in
theorem r06Of_any (k : Int) (v : Value) (l : List Int) (w : World) (h : Ints w v l) (hlim : l.length ≤ 16777216) :
    Calls Tryz.prog 10 #[.int .i64 k, v] w fun e w' => ROfOut w w' k l e := by
  obtain ⟨a, cap, rfl, -, -, hx⟩ := Ints.form h
  have H := Lib.hid h
  have HX := Lib.hid hx
  obtain ⟨z, hz⟩ : ∃ z, z = w.heap.size := ⟨_, rfl⟩
  have BZ := Blk.new w 25 #[.int .i64 0, .slice none 0 0]
  have F0 : Fr (fun _ => False) w (w.alloc (.cells #[.int .i64 0, .slice none 0 0] 25)) := (Fr.refl w).alloc _
  rw [← hz] at BZ
  have HZ := Lib.hid hz
  have HF0 := Lib.hid F0
  have HK := Lib.hid (r06Kind_any k)
  have HM := Lib.hid (r06May_any k)
  clear h hx hz F0
  go_enter Tryz.func10, Tryz.ntmps10
  go_upto_region 1 with fail
  rw [← HZ.out]
  generalize (w.alloc (.cells #[.int .i64 0, .slice none 0 0] 25)) = w0 at *
  have HBZ := Lib.hid BZ
  rcases Bool.eq_false_or_eq_true (Go.Q.kindOk k) with hk | hk
  · have HKK := Lib.hid hk
    clear hk BZ
    go_upto_region 4 with (first | (go_at_call 47; refine (HK.out _).mono ?_; rintro e w' ⟨rfl, rfl⟩; rw [HKK.out]))
    go_loopg [6] l.length (fun g i wi => ∃ k1 : Nat, g = l.length - k1 ∧ k1 ≤ l.length ∧ i = .int .i64 k1 ∧ (l.take k1).all (mayS k) = true ∧ wi = w0)
    case atStart => exact ⟨0, rfl, Nat.zero_le _, rfl, rfl, rfl⟩
    case round =>
      obtain ⟨k1, hg, hk1, rfl, hall, rfl⟩ := hrel
      obtain ⟨w0, hw0⟩ : ∃ w0 : World, w0 = wr := ⟨_, rfl⟩
      obtain rfl := hw0
      have HG := Lib.hid hg
      have HALL := Lib.hid hall
      clear hg hall
      by_cases hkl : k1 < l.length
      · obtain ⟨b8, o8, rfl, hy8⟩ := HX.out (by omega)
        obtain ⟨n, hn⟩ : ∃ n, l[k1]? = some n := ⟨_, List.getElem?_eq_getElem hkl⟩
        have en := HF0.out.cell (hy8 k1 n hn) (fun h => h)
        have hat : (l.take (k1 + 1)).all (mayS k) = ((l.take k1).all (mayS k) && mayS k n) := by
          rw [List.take_add_one, hn]
          simp
        have hno : mayS k n = false → l.all (mayS k) = false := fun h => by
          rw [List.all_eq_false]
          exact ⟨n, List.mem_of_getElem? hn, by simp [h]⟩
        have HAT := Lib.hid hat
        have HNO := Lib.hid hno
        have r1 : (0 : Int) ≤ (k1 : Int) := by omega
        have r2 : (k1 : Int) < (l.length : Int) := by omega
        clear hy8 hn hat hno
        rcases Bool.eq_false_or_eq_true (mayS k n) with hm | hm
        · have HMM := Lib.hid hm
          clear hm
          go_wp2_with (first | (go_at_call 49; refine (HM.out _ _).mono ?_; rintro e w' ⟨rfl, rfl⟩; rw [HMM.out]))
          go_roundg (l.length - (k1 + 1))
          case measure => rw [HG.out]; omega
          case rel => exact ⟨k1 + 1, rfl, by omega, by go_num, by rw [HAT.out, HALL.out, HMM.out]; rfl, rfl⟩
        · have HMM := Lib.hid hm
          have hnone : ofR k l = .error 6 := by unfold ofR; rw [if_pos HKK.out, if_neg (by rw [HNO.out hm]; decide)]
          have HN := Lib.hid hnone
          have zf0 := HBZ.out.frozen 0
          have zf1 := HBZ.out.frozen 1
          have zc0 := HBZ.out.cell 0
          have zc1 := HBZ.out.cell 1
          simp only [List.getElem?_toArray, List.getElem?_cons_succ, List.getElem?_cons_zero] at zc0 zc1
          obtain ⟨BZ6, F6⟩ := set2 HBZ.out (.int .i64 0) (.slice none 0 0)
          have HF6 := Lib.hid (HF0.out.trans' F6 (fun i hi e => by have := HZ.out; omega))
          clear hm hnone F6
          go_wp2_with (first | (go_at_call 49; refine (HM.out _ _).mono ?_; rintro e w' ⟨rfl, rfl⟩; rw [HMM.out]))
          have n0 := BZ6.cell 0
          have n1 := BZ6.cell 1
          simp only [List.getElem?_toArray, List.getElem?_cons_succ, List.getElem?_cons_zero] at n0 n1
          refine bodyPost_ret (v := .tuple #[.agg #[.int .i64 0, .slice none 0 0], .int .i64 6]) (by simp [results, Tryz.results10, go_sem, n0, n1]) rfl ?_
          unfold ROfOut
          rw [HN.out]
          exact ⟨rfl, by decide, HF6.out⟩
      · have hall : l.all (mayS k) = true := by
          have := HALL.out
          rwa [List.take_of_length_le (by omega)] at this
        have r2 : ¬ (k1 : Int) < (l.length : Int) := by omega
        have hsome : ofR k l = .ok (ofS k l) := by unfold ofR; rw [if_pos HKK.out, if_pos hall]
        have HS := Lib.hid hsome
        have hmay : ∀ n ∈ l, mayS k n = true := List.all_eq_true.1 hall
        have HMAY := Lib.hid hmay
        obtain ⟨y, hy⟩ : ∃ y, y = w0.heap.size := ⟨_, rfl⟩
        have hzy : z < y := by have := HBZ.out.lt; omega
        have BY := Blk.new w0 25 #[.int .i64 k, .slice none 0 0]
        have F1 : Fr (fun _ => False) w0 (w0.alloc (.cells #[.int .i64 k, .slice none 0 0] 25)) := (Fr.refl w0).alloc _
        have BZ1 := HBZ.out.fr F1 (fun h => h)
        have HF1 := Lib.hid (HF0.out.trans F1)
        rw [← hy] at BY
        have HY := Lib.hid hy
        clear hall hsome hmay F1 hy
        go_upto_region 9 with fail
        rw [← HY.out]
        generalize (w0.alloc (.cells #[.int .i64 k, .slice none 0 0] 25)) = w1 at *
        by_cases h12 : k = 12
        · subst h12
          have hnat := nats_of (fun n hn => (may_range (HMAY.out n hn)).1)
          have HU := Lib.hid (r06Utf8_any (.slice a l.length cap) (l.map Int.toNat) w1 (by rw [hnat]; exact H.out.old HF1.out) (fun n hn => by
            obtain ⟨m, hm, rfl⟩ := List.mem_map.1 hn
            have := may_range (HMAY.out m hm)
            omega) (by rw [List.length_map]; omega))
          rw [← ofS_12] at HU
          clear hnat
          go_wp2_with fail
          refine HU.out.mono ?_
          rintro e w5 ⟨v5, rfl, ho5, F5⟩
          have hk5 := (Vals.of_own ho5).2
          obtain ⟨a5, m5, c5, rfl, rfl⟩ := own_shape ho5
          have hy1 : y < w1.heap.size := BY.lt
          have BY5 := BY.fr F5 (fun h => h)
          have BZ5 := BZ1.fr F5 (fun h => h)
          have y0 := BY5.cell 0
          have y1 := BY5.cell 1
          have yf0 := BY5.frozen 0
          have yf1 := BY5.frozen 1
          simp only [List.getElem?_toArray, List.getElem?_cons_succ, List.getElem?_cons_zero] at y0 y1
          have BY6 := BY5.set 1 (.slice a5 (ofS 12 l).length c5)
          have F6 : Fr (fun q => q = y) w5 (w5.setCell ⟨y, 1, none⟩ (.slice a5 (ofS 12 l).length c5)) := Fr.setCell (S := fun q => q = y) (p := ⟨y, 1, none⟩) (Fr.refl w5) (fun _ => rfl) _
          have BZ6 := BZ5.fr F6 (by omega)
          have ho6 := ownsRow_fr ho5 F6 (fun q hq e => by have := (hk5 q hq).1; omega)
          simp at BY6
          have G6 := (HF1.out.trans F5).trans' F6 (fun i hi e => by have := HZ.out; omega)
          have HG6 := Lib.hid G6
          have HO6 := Lib.hid ho6
          have HB6 := Lib.hid BZ6
          have HY6 := Lib.hid BY6
          clear G6 ho6 BZ6 BY6 F6 F5 ho5 BY5 BZ5
          go_upto_region 11 with fail
          generalize (w5.setCell ⟨y, 1, none⟩ (.slice a5 (ofS 12 l).length c5)) = w6 at *
          have y60 := HY6.out.cell 0
          have y61 := HY6.out.cell 1
          have z0 := HB6.out.frozen 0
          have z1 := HB6.out.frozen 1
          have zc0 := HB6.out.cell 0
          have zc1 := HB6.out.cell 1
          simp only [List.getElem?_toArray, List.getElem?_cons_succ, List.getElem?_cons_zero] at y60 y61 zc0 zc1
          obtain ⟨BZ7, F7⟩ := set2 HB6.out (.int .i64 12) (.slice a5 (ofS 12 l).length c5)
          have HO7 := Lib.hid (own_le (ownsRow_fr HO6.out F7 (fun q hq e => by have := (hk5 q hq).1; omega)) (base' := w.heap.size) (by have := HZ.out; omega))
          have HF7 := Lib.hid (HG6.out.trans' F7 (fun i hi e => by have := HZ.out; omega))
          have n0 := BZ7.cell 0
          have n1 := BZ7.cell 1
          simp only [List.getElem?_toArray, List.getElem?_cons_succ, List.getElem?_cons_zero] at n0 n1
          clear F7 y0 y1 yf0 yf1
          go_wp2_with fail
          refine bodyPost_ret (v := .tuple #[.agg #[.int .i64 12, .slice a5 (ofS 12 l).length c5], .int .i64 0]) (by simp [results, Tryz.results10, go_sem, n0, n1]) rfl ?_
          unfold ROfOut
          rw [HS.out]
          exact ⟨_, rfl, HO7.out, HF7.out⟩
        · have p12 : (k == 12) = false := beq_eq_false_iff_ne.2 h12
          have HBZ1 := Lib.hid BZ1
          have HBY := Lib.hid BY
          clear BZ1 BY
          go_wp2_with fail
          go_loopg [8] l.length (fun g i wr => ∃ (j N6 : Nat) (a6 : Option Addr) (c6 : Nat), g = l.length - j ∧ j ≤ l.length ∧ i = .int .i64 j ∧ N6 = (ofS k (l.take j)).length ∧ Blk wr z 25 #[.int .i64 0, .slice none 0 0] ∧ Blk wr y 25 #[.int .i64 k, .slice a6 N6 c6] ∧ wr.ownsRow (y + 1) 5 1 (.slice a6 N6 c6) N6 (Lib.byteCells (ofS k (l.take j))) ∧ Fr (fun _ => False) w wr)
          case atStart => exact ⟨0, 0, none, 0, rfl, Nat.zero_le _, rfl, rfl, HBZ1.out, HBY.out, ⟨rfl, .inl ⟨rfl, rfl⟩⟩, HF1.out⟩
          case round =>
            obtain ⟨j, N6, a6, c6, hg, hj, rfl, hN6, BZ, BY, ho, F⟩ := hrel
            have HG := Lib.hid hg
            have hle := ofS_le k (l.take j)
            rw [List.length_take] at hle
            have HN6 := Lib.hid hN6
            clear hg hN6
            by_cases hjl : j < l.length
            · obtain ⟨b8, o8, rfl, hy8⟩ := HX.out (by omega)
              obtain ⟨n, hn⟩ : ∃ n, l[j]? = some n := ⟨_, List.getElem?_eq_getElem hjl⟩
              have en := F.cell (hy8 j n hn) (fun h => h)
              have hmr := may_range (HMAY.out n (List.mem_of_getElem? hn))
              obtain ⟨m, rfl⟩ : ∃ m : Nat, n = m := ⟨n.toNat, by omega⟩
              have hft := ofS_take (k := k) hn
              have HFT := Lib.hid hft
              have r1 : (0 : Int) ≤ (j : Int) := by omega
              have r2 : (j : Int) < (l.length : Int) := by omega
              have hm65 : m ≤ 65535 := by have := hmr.2.2.1 h12; omega
              have y0 := BY.cell 0
              have y1 := BY.cell 1
              simp only [List.getElem?_toArray, List.getElem?_cons_succ, List.getElem?_cons_zero] at y0 y1
              have htm : (m : Int).tmod 256 = ((m % 256 : Nat) : Int) := (Int.ofNat_tmod m 256).symm
              have hwm : IntKind.u8.wrap ((m % 256 : Nat) : Int) = ((m % 256 : Nat) : Int) := by simp only [IntKind.wrap, IntKind.signed, IntKind.bits]; simp; try omega
              have hwi1 : IntKind.i64.wrap ((m % 256 : Nat) : Int) = ((m % 256 : Nat) : Int) := by rw [IntKind.wrap_i64]; omega
              have hwi2 : IntKind.i64.wrap ((m : Int) / 256) = (m : Int) / 256 := by rw [IntKind.wrap_i64]; omega
              by_cases h30 : k = 30
              · subst h30
                have hwq : IntKind.u8.wrap ((m : Int) / 256) = ((m / 256 : Nat) : Int) := by simp [IntKind.wrap, IntKind.signed, IntKind.bits]; omega
                obtain ⟨a7, c7, w7, hr7, f7, e7, BZ7, BY7, ho7, F7⟩ := r06_put (w := w) (wr := wr) 30 (m / 256) (by omega) BZ BY hzy ho F (by have := HZ.out; omega) (by have := HN6.out; omega)
                have HB7 := Lib.hid BZ7
                have HY7 := Lib.hid BY7
                have HO7 := Lib.hid ho7
                have HF7 := Lib.hid F7
                have HRUN := Lib.hid hr7
                have ya := (BY.alloc (.cells #[.int .u8 ((m / 256 : Nat) : Int)] 5)).cell 1
                simp only [List.getElem?_toArray, List.getElem?_cons_succ, List.getElem?_cons_zero] at ya
                generalize hq1 : m / 256 = q1 at *
                have HE := Lib.hid (hy8 j m hn)
                have HN := Lib.hid hn
                clear BZ7 BY7 ho7 F7 hr7 ho F hft hmr BZ BY hn hy8
                go_upto_region 16 with fail
                go_region_law (first | (refine step_append_run (by rfl) (.tmp 44) (.tmp 51) 23 (by rfl) _ w7 (by exact HRUN.out) ?_) | fail)
                all_goals
                  go_upto_region 17 with fail
                  generalize (w7.setCell ⟨y, 1, none⟩ (.slice a7 (N6 + 1) c7)) = w8 at *
                  obtain ⟨a9, c9, w9, hr9, f9, e9, BZ9, BY9, ho9, F9⟩ := r06_put (w := w) (wr := w8) 30 (m % 256) (by omega) HB7.out HY7.out hzy HO7.out HF7.out (by have := HZ.out; omega) (by have := HN6.out; omega)
                  have en8 := HF7.out.cell HE.out (fun h => h)
                  have y80 := HY7.out.cell 0
                  have y81 := HY7.out.cell 1
                  have ya8 := (HY7.out.alloc (.cells #[.int .u8 ((m % 256 : Nat) : Int)] 5)).cell 1
                  simp only [List.getElem?_toArray, List.getElem?_cons_succ, List.getElem?_cons_zero] at y80 y81 ya8
                  have HB9 := Lib.hid BZ9
                  have HY9 := Lib.hid BY9
                  have HO9 := Lib.hid ho9
                  have HF9 := Lib.hid F9
                  have HRUN9 := Lib.hid hr9
                  generalize hq2 : m % 256 = q2 at *
                  have hpt : putS1 30 (m : Int) = [UInt8.ofNat q1] ++ [UInt8.ofNat q2] := by rw [← hq1, ← hq2]; rfl
                  have hL := congrArg List.length HFT.out
                  rw [List.length_append, hpt] at hL
                  have HL := Lib.hid hL
                  have HPT := Lib.hid hpt
                  clear BZ9 BY9 ho9 F9 hr9 y0 y1 en f7 e7 hL hpt
                  go_region_law (first | (refine step_append_run (by rfl) (.tmp 55) (.tmp 62) 23 (by rfl) _ w9 (by exact HRUN9.out) ?_) | fail)
                  all_goals
                    go_wp2_with fail
                    go_roundg (l.length - (j + 1))
                    case measure => rw [HG.out]; omega
                    case rel => exact ⟨j + 1, N6 + 1 + 1, a9, c9, rfl, by omega, by go_num, by rw [HL.out, HN6.out]; rfl, HB9.out, HY9.out, by rw [HFT.out, HPT.out, ← List.append_assoc]; exact HO9.out, HF9.out⟩
              · have p30 : (k == 30) = false := beq_eq_false_iff_ne.2 h30
                obtain ⟨a9, c9, w9, hr9, f9, e9, BZ9, BY9, ho9, F9⟩ := r06_put (w := w) (wr := wr) k (m % 256) (by omega) BZ BY hzy ho F (by have := HZ.out; omega) (by have := HN6.out; omega)
                have ya := (BY.alloc (.cells #[.int .u8 ((m % 256 : Nat) : Int)] 5)).cell 1
                simp only [List.getElem?_toArray, List.getElem?_cons_succ, List.getElem?_cons_zero] at ya
                have HB9 := Lib.hid BZ9
                have HY9 := Lib.hid BY9
                have HO9 := Lib.hid ho9
                have HF9 := Lib.hid F9
                have HRUN9 := Lib.hid hr9
                have hpt : putS1 k (m : Int) = [UInt8.ofNat (m % 256)] := by
                  unfold putS1
                  rw [if_neg h12, if_neg h30, show m % 256 = (m : Int).toNat from by have := hmr.2.2.2 h12 h30; omega]
                generalize hq2 : m % 256 = q2 at *
                have hL := congrArg List.length HFT.out
                rw [List.length_append, hpt] at hL
                have HL := Lib.hid hL
                have HPT := Lib.hid hpt
                clear BZ9 BY9 ho9 F9 hr9 ho F hft hmr BZ BY hn hy8 hL hpt
                go_wp2_with fail
                go_region_law (first | (refine step_append_run (by rfl) (.tmp 55) (.tmp 62) 23 (by rfl) _ w9 (by exact HRUN9.out) ?_) | fail)
                all_goals
                  go_wp2_with fail
                  go_roundg (l.length - (j + 1))
                  case measure => rw [HG.out]; omega
                  case rel => exact ⟨j + 1, N6 + 1, a9, c9, rfl, by omega, by go_num, by rw [HL.out, HN6.out]; rfl, HB9.out, HY9.out, by rw [HFT.out, HPT.out]; exact HO9.out, HF9.out⟩
            · have hall : l.take j = l := List.take_of_length_le (by omega)
              rw [hall] at ho HN6
              have hN := HN6.out
              subst hN
              have hk5 := (Vals.of_own ho).2
              have y60 := BY.cell 0
              have y61 := BY.cell 1
              have z0 := BZ.frozen 0
              have z1 := BZ.frozen 1
              have zc0 := BZ.cell 0
              have zc1 := BZ.cell 1
              have r2 : ¬ (j : Int) < (l.length : Int) := by omega
              simp only [List.getElem?_toArray, List.getElem?_cons_succ, List.getElem?_cons_zero] at y60 y61 zc0 zc1
              obtain ⟨BZ7, F7⟩ := set2 BZ (.int .i64 k) (.slice a6 (ofS k l).length c6)
              have HO7 := Lib.hid (own_le (ownsRow_fr ho F7 (fun q hq e => by have := (hk5 q hq).1; omega)) (base' := w.heap.size) (by have := HZ.out; omega))
              have HF7 := Lib.hid (F.trans' F7 (fun i hi e => by have := HZ.out; omega))
              have n0 := BZ7.cell 0
              have n1 := BZ7.cell 1
              simp only [List.getElem?_toArray, List.getElem?_cons_succ, List.getElem?_cons_zero] at n0 n1
              clear F7 ho F hall
              go_wp2_with fail
              refine bodyPost_ret (v := .tuple #[.agg #[.int .i64 k, .slice a6 (ofS k l).length c6], .int .i64 0]) (by simp [results, Tryz.results10, go_sem, n0, n1]) rfl ?_
              unfold ROfOut
              rw [HS.out]
              exact ⟨_, rfl, HO7.out, HF7.out⟩
  · have hn : ofR k l = .error 1 := by unfold ofR; rw [if_neg (by rw [hk]; decide)]
    have HN := Lib.hid hn
    have HKK := Lib.hid hk
    have zf0 := BZ.frozen 0
    have zf1 := BZ.frozen 1
    have zc0 := BZ.cell 0
    have zc1 := BZ.cell 1
    simp only [List.getElem?_toArray, List.getElem?_cons_succ, List.getElem?_cons_zero] at zc0 zc1
    obtain ⟨BZ6, F6⟩ := set2 BZ (.int .i64 0) (.slice none 0 0)
    have HF6 := Lib.hid (HF0.out.trans' F6 (fun i hi e => by have := HZ.out; omega))
    have n0 := BZ6.cell 0
    have n1 := BZ6.cell 1
    simp only [List.getElem?_toArray, List.getElem?_cons_succ, List.getElem?_cons_zero] at n0 n1
    clear hn hk F6
    go_wp2_with (first | (go_at_call 47; refine (HK.out _).mono ?_; rintro e w' ⟨rfl, rfl⟩; rw [HKK.out]))
    refine bodyPost_ret (v := .tuple #[.agg #[.int .i64 0, .slice none 0 0], .int .i64 1]) (by simp [results, Tryz.results10, go_sem, n0, n1]) rfl ?_
    unfold ROfOut
    rw [HN.out]
    exact ⟨rfl, by decide, HF6.out⟩
end Go.Proofs.YtgffhiopbnkjbaaGreatDoor

namespace Go.Q
theorem held_z {α : Type} {o : α} {l : List α} : (o :: l)[0]? = some o := rfl
theorem held_s {α : Type} {a o : α} {l : List α} {i : Nat} (h : l[i]? = some o) : (a :: l)[i + 1]? = some o := h
theorem held_at {α : Type} {o : α} {l : List α} {i : Nat} (h : l[i]? = some o) : l.toArray[i]? = some o := by simpa using h
end Go.Q

namespace Go.Q
open Go Go.RowKit
theorem Ints.front {w : World} {a : Option Addr} {n cap : Nat} {l : List Int} (h : Ints w (.slice a n cap) l) (m : Nat) (hm : m ≤ n) : Ints w (.slice a m cap) (l.take m) := by
  obtain ⟨a0, c0, he, h1, h2, -⟩ := Ints.form h
  simp only [Value.slice.injEq] at he
  obtain ⟨rfl, rfl, rfl⟩ := he
  have := Vals.sub h 0 m (Nat.zero_le _) hm a cap (fun _ b o e => by simpa using e) (by omega) h2
  simp only [Nat.sub_zero, List.drop_zero] at this
  unfold Ints intCells
  rw [List.map_take]
  exact this
theorem Vals.front {w : World} {a : Option Addr} {n cap : Nat} {l : List UInt8} (h : Bytes w (.slice a n cap) l) (m : Nat) (hm : m ≤ n) : Bytes w (.slice a m cap) (l.take m) := by
  obtain ⟨a0, c0, he, h1, h2, -⟩ := Vals.form h
  simp only [Value.slice.injEq] at he
  obtain ⟨rfl, rfl, rfl⟩ := he
  have := Vals.sub h 0 m (Nat.zero_le _) hm a cap (fun _ b o e => by simpa using e) (by omega) h2
  simp only [Nat.sub_zero, List.drop_zero] at this
  unfold Bytes Lib.byteCells
  rw [List.map_take]
  exact this
theorem NameAt.shape {w : World} {v : Value} {n : List (List Part)} (h : NameAt w v n) : ∃ a c, v = .slice a n.length c := by
  obtain ⟨a, c, rfl, -⟩ := h
  exact ⟨a, c, rfl⟩
theorem oneN_few {o : List Int} {k : Int} {b : List UInt8} (hl : b.length ≤ 10000) : ∀ r ∈ oneN o (wrapS (tagOf k) b), fewB r := by
  intro r hr p hp
  rw [List.mem_singleton.1 hr] at hp
  rw [List.mem_singleton.1 hp]
  have := wrap_len (tagOf k) b
  have h2 : (lenBytes b.length).length ≤ 5 := by unfold lenBytes; (repeat' split) <;> simp
  show (wrapS (tagOf k) b).length ≤ 10000000
  omega
end Go.Q
namespace Go.Proofs.YtgffhiopbnkjbaaGreatDoor
open Go Go.RowKit Go.Q

set_option maxRecDepth 20000 in
set_option maxHeartbeats 8000000 in
theorem nameKinds_any (k kind : Int) (vo vp vt : Value) (o0 p0 : List Int) (b0 : List UInt8) (w : World) (ho : Ints w vo o0) (hp : Ints w vp p0) (hb : Bytes w vt b0) (hE : Env w) :
    Calls Tryz.prog 3 #[vo, .agg #[.int .i64 k, vt], .int .i64 kind, vp] w fun e w' => e = .returned (.bool true) ∧ Fr (fun _ => False) w w' := by
  obtain ⟨ao, co, rfl, hco, hmo, -⟩ := Ints.form ho
  obtain ⟨ap, cp, rfl, hcp, hmp, -⟩ := Ints.form hp
  obtain ⟨ab, cb, rfl, hcb, hmb, -⟩ := hb.form
  obtain ⟨mo, hmo1⟩ : ∃ m : Nat, min o0.length 40 = m := ⟨_, rfl⟩
  obtain ⟨mp, hmp1⟩ : ∃ m : Nat, min p0.length 40 = m := ⟨_, rfl⟩
  obtain ⟨mb, hmb1⟩ : ∃ m : Nat, min b0.length 200 = m := ⟨_, rfl⟩
  have HO := Lib.hid (Ints.front ho mo (by omega))
  have HP := Lib.hid (Ints.front hp mp (by omega))
  have HB := Lib.hid (Vals.front hb mb (by omega))
  have hol : (o0.take mo).length = mo := by rw [List.length_take]; omega
  have hpl : (p0.take mp).length = mp := by rw [List.length_take]; omega
  have hbl : (b0.take mb).length = mb := by rw [List.length_take]; omega
  obtain ⟨z, hz⟩ : ∃ z, z = w.heap.size := ⟨_, rfl⟩
  have BT := Blk.new w 25 #[.int .i64 k, .slice ab b0.length cb]
  have F0 : Fr (fun _ => False) w (w.alloc (.cells #[.int .i64 k, .slice ab b0.length cb] 25)) := (Fr.refl w).alloc _
  rw [← hz] at BT
  have HZ := Lib.hid hz
  have HE := Lib.hid hE
  unfold maxLen at hmo hmp hmb
  have e1 : min (o0.length : Int) 40 = (mo : Int) := by omega
  have e2 : min (p0.length : Int) 40 = (mp : Int) := by omega
  have e3 : min (b0.length : Int) 200 = (mb : Int) := by omega
  have r1 : (mo : Int) ≤ (co : Int) := by omega
  have r2 : (mp : Int) ≤ (cp : Int) := by omega
  have r3 : (mb : Int) ≤ (cb : Int) := by omega
  have r4 : (0 : Int) ≤ (mo : Int) := by omega
  have r5 : (0 : Int) ≤ (mp : Int) := by omega
  have r6 : (0 : Int) ≤ (mb : Int) := by omega
  clear ho hp hb hz hE
  go_enter Tryz.func3, Tryz.ntmps3
  go_upto_region 1 with fail
  rw [← HZ.out]
  generalize (w.alloc (.cells #[.int .i64 k, .slice ab b0.length cb] 25)) = w0 at *
  go_quiet (fail)
  have BT1 : Blk (w0.drewN nq) z 25 #[.int .i64 k, .slice ab b0.length cb] := BT
  have F1 : Fr (fun _ => False) w (w0.drewN nq) := F0.drewN nq
  generalize (w0.drewN nq) = w1 at *
  clear BT F0
  obtain ⟨o, hO⟩ : ∃ o, o = o0.take mo := ⟨_, rfl⟩
  obtain ⟨p, hP⟩ : ∃ p, p = p0.take mp := ⟨_, rfl⟩
  obtain ⟨b, hB⟩ : ∃ b, b = b0.take mb := ⟨_, rfl⟩
  rw [← hO] at HO hol
  rw [← hP] at HP hpl
  rw [← hB] at HB hbl
  have hb200 : b.length ≤ 200 := by omega
  have t1 := BT1.cell 1
  have f1 := BT1.frozen 1
  simp only [List.getElem?_toArray, List.getElem?_cons_succ, List.getElem?_cons_zero] at t1
  have BT2 := BT1.set 1 (.slice ab mb cb)
  simp at BT2
  have F2 : Fr (fun _ => False) w (w1.setCell ⟨z, 1, none⟩ (.slice ab mb cb)) := F1.trans' (Fr.setCell (S := fun q => q = z) (p := ⟨z, 1, none⟩) (Fr.refl w1) (fun _ => rfl) _) (fun i hi e => by have := HZ.out; omega)
  clear hO hP hB BT1 F1
  go_upto_region 3 with fail
  generalize (w1.setCell ⟨z, 1, none⟩ (.slice ab mb cb)) = w2 at *
  clear t1 f1
  have t0 := BT2.cell 0
  have t1 := BT2.cell 1
  simp only [List.getElem?_toArray, List.getElem?_cons_succ, List.getElem?_cons_zero] at t0 t1
  go_wp2_with fail
  refine (r06Signs_any k (.slice ab mb cb) b w2 (HB.out.old F2) (by omega)).mono ?_
  rintro e w3 ⟨vl, rfl, hl3, F3⟩
  obtain ⟨al, cl, rfl, -⟩ := Ints.form hl3
  have BT3 := BT2.fr F3 (fun h => h)
  have hll : ((sigR k b).getD []).length ≤ 200 := by
    cases hs : sigR k b with
    | none => simp
    | some l =>
      have h1 := (sigR_ok hs).2
      have h2 := signsS_len k b
      simp only [Option.getD_some]
      rw [← h1]
      omega
  have G3 := F2.trans F3
  clear t0 t1 BT2 F2 F3
  obtain ⟨L, hL⟩ : ∃ L, L = (sigR k b).getD [] := ⟨_, rfl⟩
  rw [← hL] at hl3 hll ⊢
  have HL := Lib.hid hL
  clear hL
  go_wp2_with fail
  refine (r06Of_any kind (.slice al L.length cl) L w3 hl3 (by omega)).mono ?_
  rintro e w4 hout
  unfold ROfOut at hout
  cases hr : ofR kind L with
  | error x =>
    rw [hr] at hout
    obtain ⟨rfl, hx, F4⟩ := hout
    have hx1 : (x == 0) = false := beq_eq_false_iff_ne.2 hx
    have hx2 : (x != 0) = true := by simpa using hx
    have G4 : Fr (fun _ => False) w (w4.alloc (.cells #[.int .i64 0, .slice none 0 0] 25)) := (G3.trans F4).alloc _
    have HK := Lib.hid (nmKnown_any _ (HE.out.old G4))
    have HG4 := Lib.hid G4
    clear G3 F4 G4 BT3 hl3 hr hx
    generalize (sigR k b).isSome = s at *
    cases s
    all_goals
      go_wp2_with fail
      refine HK.out.mono ?_
      rintro e w5 ⟨rfl, F5⟩
      go_wp2_with fail
      go_ret
      exact ⟨rfl, HG4.out.trans F5⟩
  | ok c =>
    rw [hr] at hout
    obtain ⟨u, rfl, hu, F4⟩ := hout
    have hub := (Vals.of_own hu).1
    obtain ⟨au, mu, cu, rfl, rfl⟩ := own_shape hu
    obtain ⟨y, hy⟩ : ∃ y, y = w4.heap.size := ⟨_, rfl⟩
    have BU := Blk.new w4 25 #[.int .i64 kind, .slice au c.length cu]
    have F5 : Fr (fun _ => False) w4 (w4.alloc (.cells #[.int .i64 kind, .slice au c.length cu] 25)) := (Fr.refl w4).alloc _
    have HUB := Lib.hid (hub.old F5)
    have BT5 := (BT3.fr F4 (fun h => h)).fr F5 (fun h => h)
    have G5 := (G3.trans F4).trans F5
    rw [← hy] at BU
    have HR := Lib.hid hr
    have HY := Lib.hid hy
    clear hu hub BT3 F4 G3 F5 hl3 hr hy
    cases hs : sigR k b with
    | none =>
      have HK := Lib.hid (nmKnown_any _ (HE.out.old G5))
      have HG5 := Lib.hid G5
      clear G5 BT5 BU hs
      rw [show (Option.none : Option (List Int)).isSome = false from rfl]
      go_wp2_with fail
      refine HK.out.mono ?_
      rintro e w5 ⟨rfl, F5⟩
      go_wp2_with fail
      go_ret
      exact ⟨rfl, HG5.out.trans F5⟩
    | some l =>
      rw [hs] at HL
      obtain ⟨hright, hsg⟩ := sigR_ok hs
      have hLl : L = l := HL.out
      rw [show (Option.some l).isSome = true from rfl]
      have HRI := Lib.hid hright
      have HSG := Lib.hid hsg
      have HLL := Lib.hid hLl
      clear hs hright hsg hLl
      go_upto_region 5 with fail
      rw [← HY.out]
      generalize (w4.alloc (.cells #[.int .i64 kind, .slice au c.length cu] 25)) = w5 at *
      have HRO := Lib.hid (r04Right_any _ o w5 (HO.out.old G5))
      cases hok : oidOk o with
      | false =>
        rw [hok] at HRO
        have HK := Lib.hid (nmKnown_any _ (HE.out.old G5))
        have HG5 := Lib.hid G5
        clear G5 BT5 BU hok
        go_wp2_with fail
        refine HRO.out.mono ?_
        rintro e w6 ⟨rfl, rfl⟩
        go_wp2_with fail
        refine HK.out.mono ?_
        rintro e w6 ⟨rfl, F6⟩
        go_wp2_with fail
        go_ret
        exact ⟨rfl, HG5.out.trans F6⟩
      | true =>
        rw [hok] at HRO
        have hc : Go.Q.kindOk kind = true ∧ L.all (mayS kind) = true ∧ c = ofS kind L := by
          have h := HR.out
          unfold ofR at h
          split at h
          · split at h
            · simp only [Except.ok.injEq] at h
              exact ⟨by assumption, by assumption, h.symm⟩
            · cases h
          · cases h
        obtain ⟨hck, hca, hcc⟩ := hc
        have hcm := List.all_eq_true.1 hca
        have hcr : rightS kind c = true := by rw [hcc]; exact right_of hck hcm
        have hcs : signsS kind c = L := by rw [hcc]; exact signs_of hck hcm
        have hcl : c.length ≤ 10000 := by
          have := ofS_le kind L
          rw [← hcc] at this
          omega
        have hbk := right_kind HRI.out
        have HS1 := Lib.hid (same_signs hok HRI.out hcr (by rw [hcs, HSG.out, HLL.out]) (by omega) (by omega))
        have HF1 := Lib.hid (oneN_few (o := o) (k := k) (b := b) (by omega))
        have HF2 := Lib.hid (oneN_few (o := o) (k := kind) (b := c) hcl)
        have HF3 := Lib.hid (oneN_few (o := p) (k := k) (b := b) (by omega))
        have HST := Lib.hid (fun (h : oidOk p = true) => same_types hok h HRI.out (by omega : b.length ≤ 16777216))
        have HHO := Lib.hid hok
        clear hok hcm hca hcc hcr hcs
        go_wp2_with fail
        refine HRO.out.mono ?_
        rintro e w6 ⟨rfl, rfl⟩
        go_upto_region 8 with fail
        have BT := BT5.drew
        replace BU := BU.drew
        have G : Fr (fun _ => False) w w5.drew := G5.drew
        have GU : Fr (fun _ => False) w5 w5.drew := (Fr.refl w5).drew
        clear BT5 G5 HRO
        cases hpk : oidOk p with
        | true =>
          have HPK := Lib.hid hpk
          have HST2 := Lib.hid (HST.out hpk)
          clear hpk HST
          obtain ⟨d, hd⟩ : ∃ d, decide (o = p) = d := ⟨_, rfl⟩
          rw [hd] at HST2
          have HDP := Lib.hid hd
          clear hd
          refine wp_region_held_drew (S := fun w' => (∀ j, w'.cell? ⟨z, j, none⟩ = (#[.int .i64 k, .slice ab mb cb] : Array Value)[j]?) ∧ (∀ j, w'.cell? ⟨y, j, none⟩ = (#[.int .i64 kind, .slice au c.length cu] : Array Value)[j]?)) (by kernel_rfl) ?_ (fun hHeld => ?_)
          · exact ⟨BT.cell, BU.cell⟩
          refine wpAnyH_ready (rs := [0]) (by kernel_rfl) (by simp) ?_
          refine AllReadyH.cons (held_at held_z) (fun K hK => ?_) AllReadyH.nil
          go_simp
          go_at_call 12; (with_reducible refine (nmKnown_any _ (HE.out.old G)).mono ?_); rintro e w' ⟨rfl, F⟩; replace BT := BT.fr F (fun h => h); replace BU := BU.fr F (fun h => h); replace G := G.trans F; replace GU := GU.trans F
          try go_wp2_with fail
          refine hK.out _ _ ?_ (fun hHeld => ?_)
          · exact ⟨BT.cell, BU.cell⟩
          clear hK K
          try simp only [Act.put, List.setIfInBounds_toArray, List.set_cons_zero, List.set_cons_succ]
          refine wpAnyH_take (i := 1) (v := ?v1) (held_at (held_s held_z)) (by kernel_rfl) (by kernel_rfl) (by kernel_rfl) (fun _ _ _ h => h) (Or.inl ⟨by rfl, ?hy1⟩) (by assumption) ?rest1
          case hy1 => intro w9 hSw; (try dsimp only at hSw); go_simp; all_goals with_reducible rfl
          try simp only [Act.put, List.setIfInBounds_toArray, List.set_cons_zero, List.set_cons_succ]
          refine wpAnyH_take (i := 2) (v := ?v2) (held_at (held_s (held_s held_z))) (by kernel_rfl) (by kernel_rfl) (by kernel_rfl) (fun _ _ _ h => h) (Or.inl ⟨by rfl, ?hy2⟩) (by assumption) ?rest2
          case hy2 => intro w9 hSw; (try dsimp only at hSw); go_simp; all_goals with_reducible rfl
          try simp only [Act.put, List.setIfInBounds_toArray, List.set_cons_zero, List.set_cons_succ]
          refine wpAnyH_take (i := 3) (v := ?v3) (held_at (held_s (held_s (held_s held_z)))) (by kernel_rfl) (by kernel_rfl) (by kernel_rfl) (fun _ _ _ h => h) (Or.inl ⟨by rfl, ?hy3⟩) (by assumption) ?rest3
          case hy3 => intro w9 hSw; (try dsimp only at hSw); go_simp; all_goals with_reducible rfl
          try simp only [Act.put, List.setIfInBounds_toArray, List.set_cons_zero, List.set_cons_succ]
          refine wpAnyH_take (i := 4) (v := ?v4) (held_at (held_s (held_s (held_s (held_s held_z))))) (by kernel_rfl) (by kernel_rfl) (by kernel_rfl) (fun _ _ _ h => h) (Or.inl ⟨by rfl, ?hy4⟩) (by assumption) ?rest4
          case hy4 => intro w9 hSw; (try dsimp only at hSw); go_simp; all_goals with_reducible rfl
          try simp only [Act.put, List.setIfInBounds_toArray, List.set_cons_zero, List.set_cons_succ]
          refine wpAnyH_take (i := 6) (v := ?v6) (held_at (held_s (held_s (held_s (held_s (held_s (held_s held_z))))))) (by kernel_rfl) (by kernel_rfl) (by kernel_rfl) (fun _ _ _ h => h) (Or.inl ⟨by rfl, ?hy6⟩) (by assumption) ?rest6
          case hy6 => intro w9 hSw; (try dsimp only at hSw); go_simp; all_goals with_reducible rfl
          try simp only [Act.put, List.setIfInBounds_toArray, List.set_cons_zero, List.set_cons_succ]
          refine wpAnyH_take (i := 7) (v := ?v7) (held_at (held_s (held_s (held_s (held_s (held_s (held_s (held_s held_z)))))))) (by kernel_rfl) (by kernel_rfl) (by kernel_rfl) (fun _ _ _ h => h) (Or.inl ⟨by rfl, ?hy7⟩) (by assumption) ?rest7
          case hy7 => intro w9 hSw; (try dsimp only at hSw); go_simp; all_goals with_reducible rfl
          try simp only [Act.put, List.setIfInBounds_toArray, List.set_cons_zero, List.set_cons_succ]
          refine wpAnyH_take (i := 8) (v := ?v8) (held_at (held_s (held_s (held_s (held_s (held_s (held_s (held_s (held_s held_z))))))))) (by kernel_rfl) (by kernel_rfl) (by kernel_rfl) (fun _ _ _ h => h) (Or.inl ⟨by rfl, ?hy8⟩) (by assumption) ?rest8
          case hy8 => intro w9 hSw; (try dsimp only at hSw); go_simp; all_goals with_reducible rfl
          try simp only [Act.put, List.setIfInBounds_toArray, List.set_cons_zero, List.set_cons_succ]
          refine wpAnyH_ready (rs := [5]) (by kernel_rfl) (by simp) ?_
          refine AllReadyH.cons (held_at (held_s (held_s (held_s (held_s (held_s held_z)))))) (fun K hK => ?_) AllReadyH.nil
          go_simp
          go_at_call 13; (with_reducible refine (nkOne_any o k b (.slice ao mo co) (.slice ab mb cb) _ (HO.out.old G) (HB.out.old G) hbk (by omega)).mono ?_); rintro e w' ⟨v1, rfl, hv1, F⟩; obtain ⟨xv1, cv1, rfl⟩ : ∃ a c, v1 = .slice a 1 c := NameAt.shape hv1; replace BT := BT.fr F (fun h => h); replace BU := BU.fr F (fun h => h); replace G := G.trans F; replace GU := GU.trans F
          try go_wp2_with fail
          refine hK.out _ _ ?_ (fun hHeld => ?_)
          · exact ⟨BT.cell, BU.cell⟩
          clear hK K
          try simp only [Act.put, List.setIfInBounds_toArray, List.set_cons_zero, List.set_cons_succ]
          refine wpAnyH_ready (rs := [9]) (by kernel_rfl) (by simp) ?_
          refine AllReadyH.cons (held_at (held_s (held_s (held_s (held_s (held_s (held_s (held_s (held_s (held_s held_z)))))))))) (fun K hK => ?_) AllReadyH.nil
          go_simp
          go_at_call 13; (with_reducible refine (nkOne_any o kind c (.slice ao mo co) (.slice au c.length cu) _ (HO.out.old G) (HUB.out.old GU) hck (by omega)).mono ?_); rintro e w' ⟨v2, rfl, hv2, F⟩; obtain ⟨xv2, cv2, rfl⟩ : ∃ a c, v2 = .slice a 1 c := NameAt.shape hv2; replace BT := BT.fr F (fun h => h); replace BU := BU.fr F (fun h => h); replace G := G.trans F; replace GU := GU.trans F; replace hv1 := hv1.old F
          try go_wp2_with fail
          refine hK.out _ _ ?_ (fun hHeld => ?_)
          · exact ⟨BT.cell, BU.cell⟩
          clear hK K
          try simp only [Act.put, List.setIfInBounds_toArray, List.set_cons_zero, List.set_cons_succ]
          refine wpAnyH_ready (rs := [10]) (by kernel_rfl) (by simp) ?_
          refine AllReadyH.cons (held_at (held_s (held_s (held_s (held_s (held_s (held_s (held_s (held_s (held_s (held_s held_z))))))))))) (fun K hK => ?_) AllReadyH.nil
          go_simp
          go_at_call 16; (with_reducible refine (nameSame_any _ _ (oneN o (wrapS (tagOf k) b)) (oneN o (wrapS (tagOf kind) c)) _ hv1 hv2 HF1.out HF2.out (HE.out.old G)).mono ?_); rintro e w' ⟨rfl, F⟩; rw [HS1.out]; replace BT := BT.fr F (fun h => h); replace BU := BU.fr F (fun h => h); replace G := G.trans F; replace GU := GU.trans F
          try go_wp2_with fail
          refine hK.out _ _ ?_ (fun hHeld => ?_)
          · exact ⟨BT.cell, BU.cell⟩
          clear hK K
          try simp only [Act.put, List.setIfInBounds_toArray, List.set_cons_zero, List.set_cons_succ]
          refine wpAnyH_take (i := 11) (v := ?v11) (held_at (held_s (held_s (held_s (held_s (held_s (held_s (held_s (held_s (held_s (held_s (held_s held_z)))))))))))) (by kernel_rfl) (by kernel_rfl) (by kernel_rfl) (fun _ _ _ h => h) (Or.inl ⟨by rfl, ?hy11⟩) (by assumption) ?rest11
          case hy11 => intro w9 hSw; (try dsimp only at hSw); go_simp; all_goals with_reducible rfl
          try simp only [Act.put, List.setIfInBounds_toArray, List.set_cons_zero, List.set_cons_succ]
          refine wpAnyH_take (i := 12) (v := ?v12) (held_at (held_s (held_s (held_s (held_s (held_s (held_s (held_s (held_s (held_s (held_s (held_s (held_s held_z))))))))))))) (by kernel_rfl) (by kernel_rfl) (by kernel_rfl) (fun _ _ _ h => h) (Or.inl ⟨by rfl, ?hy12⟩) (by assumption) ?rest12
          case hy12 => intro w9 hSw; (try dsimp only at hSw); go_simp; all_goals with_reducible rfl
          try simp only [Act.put, List.setIfInBounds_toArray, List.set_cons_zero, List.set_cons_succ]
          refine wpAnyH_take (i := 13) (v := ?v13) (held_at (held_s (held_s (held_s (held_s (held_s (held_s (held_s (held_s (held_s (held_s (held_s (held_s (held_s held_z)))))))))))))) (by kernel_rfl) (by kernel_rfl) (by kernel_rfl) (fun _ _ _ h => h) (Or.inl ⟨by rfl, ?hy13⟩) (by assumption) ?rest13
          case hy13 => intro w9 hSw; (try dsimp only at hSw); go_simp; all_goals with_reducible rfl
          try simp only [Act.put, List.setIfInBounds_toArray, List.set_cons_zero, List.set_cons_succ]
          refine wpAnyH_ready (rs := [14]) (by kernel_rfl) (by simp) ?_
          refine AllReadyH.cons (held_at (held_s (held_s (held_s (held_s (held_s (held_s (held_s (held_s (held_s (held_s (held_s (held_s (held_s (held_s held_z))))))))))))))) (fun K hK => ?_) AllReadyH.nil
          go_simp
          go_at_call 11; (with_reducible refine (r04Right_any _ p _ (HP.out.old G)).mono ?_); rintro e w' ⟨rfl, rfl⟩; rw [HPK.out]
          try go_wp2_with fail
          refine hK.out _ _ ?_ (fun hHeld => ?_)
          · exact ⟨BT.cell, BU.cell⟩
          clear hK K
          try simp only [Act.put, List.setIfInBounds_toArray, List.set_cons_zero, List.set_cons_succ]
          refine wpAnyH_take (i := 15) (v := ?v15) (held_at (held_s (held_s (held_s (held_s (held_s (held_s (held_s (held_s (held_s (held_s (held_s (held_s (held_s (held_s (held_s held_z)))))))))))))))) (by kernel_rfl) (by kernel_rfl) (by kernel_rfl) (fun _ _ _ h => h) (Or.inl ⟨by rfl, ?hy15⟩) (by assumption) ?rest15
          case hy15 => intro w9 hSw; (try dsimp only at hSw); go_simp; all_goals with_reducible rfl
          try simp only [Act.put, List.setIfInBounds_toArray, List.set_cons_zero, List.set_cons_succ]
          refine wpAnyH_take (i := 16) (v := ?v16) (held_at (held_s (held_s (held_s (held_s (held_s (held_s (held_s (held_s (held_s (held_s (held_s (held_s (held_s (held_s (held_s (held_s held_z))))))))))))))))) (by kernel_rfl) (by kernel_rfl) (by kernel_rfl) (fun _ _ _ h => h) (Or.inl ⟨by rfl, ?hy16⟩) (by assumption) ?rest16
          case hy16 => intro w9 hSw; (try dsimp only at hSw); go_simp; all_goals with_reducible rfl
          try simp only [Act.put, List.setIfInBounds_toArray, List.set_cons_zero, List.set_cons_succ]
          refine wpAnyH_take (i := 17) (v := ?v17) (held_at (held_s (held_s (held_s (held_s (held_s (held_s (held_s (held_s (held_s (held_s (held_s (held_s (held_s (held_s (held_s (held_s (held_s held_z)))))))))))))))))) (by kernel_rfl) (by kernel_rfl) (by kernel_rfl) (fun _ _ _ h => h) (Or.inl ⟨by rfl, ?hy17⟩) (by assumption) ?rest17
          case hy17 => intro w9 hSw; (try dsimp only at hSw); go_simp; all_goals with_reducible rfl
          try simp only [Act.put, List.setIfInBounds_toArray, List.set_cons_zero, List.set_cons_succ]
          refine wpAnyH_take (i := 18) (v := ?v18) (held_at (held_s (held_s (held_s (held_s (held_s (held_s (held_s (held_s (held_s (held_s (held_s (held_s (held_s (held_s (held_s (held_s (held_s (held_s held_z))))))))))))))))))) (by kernel_rfl) (by kernel_rfl) (by kernel_rfl) (fun _ _ _ h => h) (Or.inl ⟨by rfl, ?hy18⟩) (by assumption) ?rest18
          case hy18 => intro w9 hSw; (try dsimp only at hSw); go_simp; all_goals with_reducible rfl
          try simp only [Act.put, List.setIfInBounds_toArray, List.set_cons_zero, List.set_cons_succ]
          refine wpAnyH_take (i := 19) (v := ?v19) (held_at (held_s (held_s (held_s (held_s (held_s (held_s (held_s (held_s (held_s (held_s (held_s (held_s (held_s (held_s (held_s (held_s (held_s (held_s (held_s held_z)))))))))))))))))))) (by kernel_rfl) (by kernel_rfl) (by kernel_rfl) (fun _ _ _ h => h) (Or.inl ⟨by rfl, ?hy19⟩) (by assumption) ?rest19
          case hy19 => intro w9 hSw; (try dsimp only at hSw); go_simp; all_goals with_reducible rfl
          try simp only [Act.put, List.setIfInBounds_toArray, List.set_cons_zero, List.set_cons_succ]
          refine wpAnyH_take (i := 21) (v := ?v21) (held_at (held_s (held_s (held_s (held_s (held_s (held_s (held_s (held_s (held_s (held_s (held_s (held_s (held_s (held_s (held_s (held_s (held_s (held_s (held_s (held_s (held_s held_z)))))))))))))))))))))) (by kernel_rfl) (by kernel_rfl) (by kernel_rfl) (fun _ _ _ h => h) (Or.inl ⟨by rfl, ?hy21⟩) (by assumption) ?rest21
          case hy21 => intro w9 hSw; (try dsimp only at hSw); go_simp; all_goals with_reducible rfl
          try simp only [Act.put, List.setIfInBounds_toArray, List.set_cons_zero, List.set_cons_succ]
          refine wpAnyH_take (i := 22) (v := ?v22) (held_at (held_s (held_s (held_s (held_s (held_s (held_s (held_s (held_s (held_s (held_s (held_s (held_s (held_s (held_s (held_s (held_s (held_s (held_s (held_s (held_s (held_s (held_s held_z))))))))))))))))))))))) (by kernel_rfl) (by kernel_rfl) (by kernel_rfl) (fun _ _ _ h => h) (Or.inl ⟨by rfl, ?hy22⟩) (by assumption) ?rest22
          case hy22 => intro w9 hSw; (try dsimp only at hSw); go_simp; all_goals with_reducible rfl
          try simp only [Act.put, List.setIfInBounds_toArray, List.set_cons_zero, List.set_cons_succ]
          refine wpAnyH_take (i := 23) (v := ?v23) (held_at (held_s (held_s (held_s (held_s (held_s (held_s (held_s (held_s (held_s (held_s (held_s (held_s (held_s (held_s (held_s (held_s (held_s (held_s (held_s (held_s (held_s (held_s (held_s held_z)))))))))))))))))))))))) (by kernel_rfl) (by kernel_rfl) (by kernel_rfl) (fun _ _ _ h => h) (Or.inl ⟨by rfl, ?hy23⟩) (by assumption) ?rest23
          case hy23 => intro w9 hSw; (try dsimp only at hSw); go_simp; all_goals with_reducible rfl
          try simp only [Act.put, List.setIfInBounds_toArray, List.set_cons_zero, List.set_cons_succ]
          refine wpAnyH_take (i := 26) (v := ?v26) (held_at (held_s (held_s (held_s (held_s (held_s (held_s (held_s (held_s (held_s (held_s (held_s (held_s (held_s (held_s (held_s (held_s (held_s (held_s (held_s (held_s (held_s (held_s (held_s (held_s (held_s (held_s held_z))))))))))))))))))))))))))) (by kernel_rfl) (by kernel_rfl) (by kernel_rfl) (fun _ _ _ h => h) (Or.inl ⟨by rfl, ?hy26⟩) (by assumption) ?rest26
          case hy26 => intro w9 hSw; (try dsimp only at hSw); go_simp; all_goals with_reducible rfl
          try simp only [Act.put, List.setIfInBounds_toArray, List.set_cons_zero, List.set_cons_succ]
          refine wpAnyH_take (i := 27) (v := ?v27) (held_at (held_s (held_s (held_s (held_s (held_s (held_s (held_s (held_s (held_s (held_s (held_s (held_s (held_s (held_s (held_s (held_s (held_s (held_s (held_s (held_s (held_s (held_s (held_s (held_s (held_s (held_s (held_s held_z)))))))))))))))))))))))))))) (by kernel_rfl) (by kernel_rfl) (by kernel_rfl) (fun _ _ _ h => h) (Or.inl ⟨by rfl, ?hy27⟩) (by assumption) ?rest27
          case hy27 => intro w9 hSw; (try dsimp only at hSw); go_simp; all_goals with_reducible rfl
          try simp only [Act.put, List.setIfInBounds_toArray, List.set_cons_zero, List.set_cons_succ]
          refine wpAnyH_ready (rs := [20]) (by kernel_rfl) (by simp) ?_
          refine AllReadyH.cons (held_at (held_s (held_s (held_s (held_s (held_s (held_s (held_s (held_s (held_s (held_s (held_s (held_s (held_s (held_s (held_s (held_s (held_s (held_s (held_s (held_s held_z))))))))))))))))))))) (fun K hK => ?_) AllReadyH.nil
          go_simp
          go_at_call 13; (with_reducible refine (nkOne_any o k b (.slice ao mo co) (.slice ab mb cb) _ (HO.out.old G) (HB.out.old G) hbk (by omega)).mono ?_); rintro e w' ⟨v1, rfl, hv1, F⟩; obtain ⟨xv1, cv1, rfl⟩ : ∃ a c, v1 = .slice a 1 c := NameAt.shape hv1; replace BT := BT.fr F (fun h => h); replace BU := BU.fr F (fun h => h); replace G := G.trans F; replace GU := GU.trans F
          try go_wp2_with fail
          refine hK.out _ _ ?_ (fun hHeld => ?_)
          · exact ⟨BT.cell, BU.cell⟩
          clear hK K
          try simp only [Act.put, List.setIfInBounds_toArray, List.set_cons_zero, List.set_cons_succ]
          refine wpAnyH_ready (rs := [24]) (by kernel_rfl) (by simp) ?_
          refine AllReadyH.cons (held_at (held_s (held_s (held_s (held_s (held_s (held_s (held_s (held_s (held_s (held_s (held_s (held_s (held_s (held_s (held_s (held_s (held_s (held_s (held_s (held_s (held_s (held_s (held_s (held_s held_z))))))))))))))))))))))))) (fun K hK => ?_) AllReadyH.nil
          go_simp
          go_at_call 13; (with_reducible refine (nkOne_any p k b (.slice ap mp cp) (.slice ab mb cb) _ (HP.out.old G) (HB.out.old G) hbk (by omega)).mono ?_); rintro e w' ⟨v4, rfl, hv4, F⟩; obtain ⟨xv4, cv4, rfl⟩ : ∃ a c, v4 = .slice a 1 c := NameAt.shape hv4; replace BT := BT.fr F (fun h => h); replace BU := BU.fr F (fun h => h); replace G := G.trans F; replace GU := GU.trans F; replace hv1 := hv1.old F
          try go_wp2_with fail
          refine hK.out _ _ ?_ (fun hHeld => ?_)
          · exact ⟨BT.cell, BU.cell⟩
          clear hK K
          try simp only [Act.put, List.setIfInBounds_toArray, List.set_cons_zero, List.set_cons_succ]
          refine wpAnyH_ready (rs := [25]) (by kernel_rfl) (by simp) ?_
          refine AllReadyH.cons (held_at (held_s (held_s (held_s (held_s (held_s (held_s (held_s (held_s (held_s (held_s (held_s (held_s (held_s (held_s (held_s (held_s (held_s (held_s (held_s (held_s (held_s (held_s (held_s (held_s (held_s held_z)))))))))))))))))))))))))) (fun K hK => ?_) AllReadyH.nil
          go_simp
          go_at_call 16; (with_reducible refine (nameSame_any _ _ (oneN o (wrapS (tagOf k) b)) (oneN p (wrapS (tagOf k) b)) _ hv1 hv4 HF1.out HF3.out (HE.out.old G)).mono ?_); rintro e w' ⟨rfl, F⟩; rw [HST2.out]; replace BT := BT.fr F (fun h => h); replace BU := BU.fr F (fun h => h); replace G := G.trans F; replace GU := GU.trans F
          try go_wp2_with fail
          refine hK.out _ _ ?_ (fun hHeld => ?_)
          · exact ⟨BT.cell, BU.cell⟩
          clear hK K
          try simp only [Act.put, List.setIfInBounds_toArray, List.set_cons_zero, List.set_cons_succ]
          refine wpAnyH_ready (rs := [28]) (by kernel_rfl) (by simp) ?_
          refine AllReadyH.cons (held_at (held_s (held_s (held_s (held_s (held_s (held_s (held_s (held_s (held_s (held_s (held_s (held_s (held_s (held_s (held_s (held_s (held_s (held_s (held_s (held_s (held_s (held_s (held_s (held_s (held_s (held_s (held_s (held_s held_z))))))))))))))))))))))))))))) (fun K hK => ?_) AllReadyH.nil
          go_simp
          go_at_call 17; (with_reducible refine (r04Same_any _ _ o p _ (HO.out.old G) (HP.out.old G)).mono ?_); rintro e w' ⟨rfl, F⟩; rw [HDP.out]; replace BT := BT.fr F (fun h => h); replace BU := BU.fr F (fun h => h); replace G := G.trans F; replace GU := GU.trans F
          try go_wp2_with fail
          refine hK.out _ _ ?_ (fun hHeld => ?_)
          · exact ⟨BT.cell, BU.cell⟩
          clear hK K
          try simp only [Act.put, List.setIfInBounds_toArray, List.set_cons_zero, List.set_cons_succ]
          refine wpAnyH_take (i := 29) (v := ?v29) (held_at (held_s (held_s (held_s (held_s (held_s (held_s (held_s (held_s (held_s (held_s (held_s (held_s (held_s (held_s (held_s (held_s (held_s (held_s (held_s (held_s (held_s (held_s (held_s (held_s (held_s (held_s (held_s (held_s (held_s held_z)))))))))))))))))))))))))))))) (by kernel_rfl) (by kernel_rfl) (by kernel_rfl) (fun _ _ _ h => h) (Or.inl ⟨by rfl, ?hy29⟩) (by assumption) ?rest29
          case hy29 => intro w9 hSw; (try dsimp only at hSw); go_simp; all_goals with_reducible rfl
          try simp only [Act.put, List.setIfInBounds_toArray, List.set_cons_zero, List.set_cons_succ]
          refine wpAnyH_take (i := 30) (v := ?v30) (held_at (held_s (held_s (held_s (held_s (held_s (held_s (held_s (held_s (held_s (held_s (held_s (held_s (held_s (held_s (held_s (held_s (held_s (held_s (held_s (held_s (held_s (held_s (held_s (held_s (held_s (held_s (held_s (held_s (held_s (held_s held_z))))))))))))))))))))))))))))))) (by kernel_rfl) (by kernel_rfl) (by kernel_rfl) (fun _ _ _ h => h) (Or.inl ⟨by rfl, ?hy30⟩) (by assumption) ?rest30
          case hy30 => intro w9 hSw; (try dsimp only at hSw); go_simp; all_goals with_reducible rfl
          try simp only [Act.put, List.setIfInBounds_toArray, List.set_cons_zero, List.set_cons_succ]
          refine wpAnyH_take (i := 31) (v := ?v31) (held_at (held_s (held_s (held_s (held_s (held_s (held_s (held_s (held_s (held_s (held_s (held_s (held_s (held_s (held_s (held_s (held_s (held_s (held_s (held_s (held_s (held_s (held_s (held_s (held_s (held_s (held_s (held_s (held_s (held_s (held_s (held_s held_z)))))))))))))))))))))))))))))))) (by kernel_rfl) (by kernel_rfl) (by kernel_rfl) (fun _ _ _ h => h) (Or.inl ⟨by rfl, ?hy31⟩) (by assumption) ?rest31
          case hy31 => intro w9 hSw; (try dsimp only at hSw); go_simp; all_goals with_reducible rfl
          try simp only [Act.put, List.setIfInBounds_toArray, List.set_cons_zero, List.set_cons_succ]
          refine wpAnyH_take (i := 32) (v := ?v32) (held_at (held_s (held_s (held_s (held_s (held_s (held_s (held_s (held_s (held_s (held_s (held_s (held_s (held_s (held_s (held_s (held_s (held_s (held_s (held_s (held_s (held_s (held_s (held_s (held_s (held_s (held_s (held_s (held_s (held_s (held_s (held_s (held_s held_z))))))))))))))))))))))))))))))))) (by kernel_rfl) (by kernel_rfl) (by kernel_rfl) (fun _ _ _ h => h) (Or.inl ⟨by rfl, ?hy32⟩) (by assumption) ?rest32
          case hy32 => intro w9 hSw; (try dsimp only at hSw); go_simp; all_goals with_reducible rfl
          try simp only [Act.put, List.setIfInBounds_toArray, List.set_cons_zero, List.set_cons_succ]
          refine wpAnyH_done (by kernel_rfl) ?_ _
          go_wp2_with fail
          go_ret
          exact ⟨rfl, G⟩
        | false =>
          have HPK := Lib.hid hpk
          clear hpk HST
          refine wp_region_held_drew (S := fun w' => (∀ j, w'.cell? ⟨z, j, none⟩ = (#[.int .i64 k, .slice ab mb cb] : Array Value)[j]?) ∧ (∀ j, w'.cell? ⟨y, j, none⟩ = (#[.int .i64 kind, .slice au c.length cu] : Array Value)[j]?)) (by kernel_rfl) ?_ (fun hHeld => ?_)
          · exact ⟨BT.cell, BU.cell⟩
          refine wpAnyH_ready (rs := [0]) (by kernel_rfl) (by simp) ?_
          refine AllReadyH.cons (held_at held_z) (fun K hK => ?_) AllReadyH.nil
          go_simp
          go_at_call 12; (with_reducible refine (nmKnown_any _ (HE.out.old G)).mono ?_); rintro e w' ⟨rfl, F⟩; replace BT := BT.fr F (fun h => h); replace BU := BU.fr F (fun h => h); replace G := G.trans F; replace GU := GU.trans F
          try go_wp2_with fail
          refine hK.out _ _ ?_ (fun hHeld => ?_)
          · exact ⟨BT.cell, BU.cell⟩
          clear hK K
          try simp only [Act.put, List.setIfInBounds_toArray, List.set_cons_zero, List.set_cons_succ]
          refine wpAnyH_take (i := 1) (v := ?vn1) (held_at (held_s held_z)) (by kernel_rfl) (by kernel_rfl) (by kernel_rfl) (fun _ _ _ h => h) (Or.inl ⟨by rfl, ?hyn1⟩) (by assumption) ?restn1
          case hyn1 => intro w9 hSw; (try dsimp only at hSw); go_simp; all_goals with_reducible rfl
          try simp only [Act.put, List.setIfInBounds_toArray, List.set_cons_zero, List.set_cons_succ]
          refine wpAnyH_take (i := 2) (v := ?vn2) (held_at (held_s (held_s held_z))) (by kernel_rfl) (by kernel_rfl) (by kernel_rfl) (fun _ _ _ h => h) (Or.inl ⟨by rfl, ?hyn2⟩) (by assumption) ?restn2
          case hyn2 => intro w9 hSw; (try dsimp only at hSw); go_simp; all_goals with_reducible rfl
          try simp only [Act.put, List.setIfInBounds_toArray, List.set_cons_zero, List.set_cons_succ]
          refine wpAnyH_take (i := 3) (v := ?vn3) (held_at (held_s (held_s (held_s held_z)))) (by kernel_rfl) (by kernel_rfl) (by kernel_rfl) (fun _ _ _ h => h) (Or.inl ⟨by rfl, ?hyn3⟩) (by assumption) ?restn3
          case hyn3 => intro w9 hSw; (try dsimp only at hSw); go_simp; all_goals with_reducible rfl
          try simp only [Act.put, List.setIfInBounds_toArray, List.set_cons_zero, List.set_cons_succ]
          refine wpAnyH_take (i := 4) (v := ?vn4) (held_at (held_s (held_s (held_s (held_s held_z))))) (by kernel_rfl) (by kernel_rfl) (by kernel_rfl) (fun _ _ _ h => h) (Or.inl ⟨by rfl, ?hyn4⟩) (by assumption) ?restn4
          case hyn4 => intro w9 hSw; (try dsimp only at hSw); go_simp; all_goals with_reducible rfl
          try simp only [Act.put, List.setIfInBounds_toArray, List.set_cons_zero, List.set_cons_succ]
          refine wpAnyH_take (i := 6) (v := ?vn6) (held_at (held_s (held_s (held_s (held_s (held_s (held_s held_z))))))) (by kernel_rfl) (by kernel_rfl) (by kernel_rfl) (fun _ _ _ h => h) (Or.inl ⟨by rfl, ?hyn6⟩) (by assumption) ?restn6
          case hyn6 => intro w9 hSw; (try dsimp only at hSw); go_simp; all_goals with_reducible rfl
          try simp only [Act.put, List.setIfInBounds_toArray, List.set_cons_zero, List.set_cons_succ]
          refine wpAnyH_take (i := 7) (v := ?vn7) (held_at (held_s (held_s (held_s (held_s (held_s (held_s (held_s held_z)))))))) (by kernel_rfl) (by kernel_rfl) (by kernel_rfl) (fun _ _ _ h => h) (Or.inl ⟨by rfl, ?hyn7⟩) (by assumption) ?restn7
          case hyn7 => intro w9 hSw; (try dsimp only at hSw); go_simp; all_goals with_reducible rfl
          try simp only [Act.put, List.setIfInBounds_toArray, List.set_cons_zero, List.set_cons_succ]
          refine wpAnyH_take (i := 8) (v := ?vn8) (held_at (held_s (held_s (held_s (held_s (held_s (held_s (held_s (held_s held_z))))))))) (by kernel_rfl) (by kernel_rfl) (by kernel_rfl) (fun _ _ _ h => h) (Or.inl ⟨by rfl, ?hyn8⟩) (by assumption) ?restn8
          case hyn8 => intro w9 hSw; (try dsimp only at hSw); go_simp; all_goals with_reducible rfl
          try simp only [Act.put, List.setIfInBounds_toArray, List.set_cons_zero, List.set_cons_succ]
          refine wpAnyH_ready (rs := [5]) (by kernel_rfl) (by simp) ?_
          refine AllReadyH.cons (held_at (held_s (held_s (held_s (held_s (held_s held_z)))))) (fun K hK => ?_) AllReadyH.nil
          go_simp
          go_at_call 13; (with_reducible refine (nkOne_any o k b (.slice ao mo co) (.slice ab mb cb) _ (HO.out.old G) (HB.out.old G) hbk (by omega)).mono ?_); rintro e w' ⟨v1, rfl, hv1, F⟩; obtain ⟨xv1, cv1, rfl⟩ : ∃ a c, v1 = .slice a 1 c := NameAt.shape hv1; replace BT := BT.fr F (fun h => h); replace BU := BU.fr F (fun h => h); replace G := G.trans F; replace GU := GU.trans F
          try go_wp2_with fail
          refine hK.out _ _ ?_ (fun hHeld => ?_)
          · exact ⟨BT.cell, BU.cell⟩
          clear hK K
          try simp only [Act.put, List.setIfInBounds_toArray, List.set_cons_zero, List.set_cons_succ]
          refine wpAnyH_ready (rs := [9]) (by kernel_rfl) (by simp) ?_
          refine AllReadyH.cons (held_at (held_s (held_s (held_s (held_s (held_s (held_s (held_s (held_s (held_s held_z)))))))))) (fun K hK => ?_) AllReadyH.nil
          go_simp
          go_at_call 13; (with_reducible refine (nkOne_any o kind c (.slice ao mo co) (.slice au c.length cu) _ (HO.out.old G) (HUB.out.old GU) hck (by omega)).mono ?_); rintro e w' ⟨v2, rfl, hv2, F⟩; obtain ⟨xv2, cv2, rfl⟩ : ∃ a c, v2 = .slice a 1 c := NameAt.shape hv2; replace BT := BT.fr F (fun h => h); replace BU := BU.fr F (fun h => h); replace G := G.trans F; replace GU := GU.trans F; replace hv1 := hv1.old F
          try go_wp2_with fail
          refine hK.out _ _ ?_ (fun hHeld => ?_)
          · exact ⟨BT.cell, BU.cell⟩
          clear hK K
          try simp only [Act.put, List.setIfInBounds_toArray, List.set_cons_zero, List.set_cons_succ]
          refine wpAnyH_ready (rs := [10]) (by kernel_rfl) (by simp) ?_
          refine AllReadyH.cons (held_at (held_s (held_s (held_s (held_s (held_s (held_s (held_s (held_s (held_s (held_s held_z))))))))))) (fun K hK => ?_) AllReadyH.nil
          go_simp
          go_at_call 16; (with_reducible refine (nameSame_any _ _ (oneN o (wrapS (tagOf k) b)) (oneN o (wrapS (tagOf kind) c)) _ hv1 hv2 HF1.out HF2.out (HE.out.old G)).mono ?_); rintro e w' ⟨rfl, F⟩; rw [HS1.out]; replace BT := BT.fr F (fun h => h); replace BU := BU.fr F (fun h => h); replace G := G.trans F; replace GU := GU.trans F
          try go_wp2_with fail
          refine hK.out _ _ ?_ (fun hHeld => ?_)
          · exact ⟨BT.cell, BU.cell⟩
          clear hK K
          try simp only [Act.put, List.setIfInBounds_toArray, List.set_cons_zero, List.set_cons_succ]
          refine wpAnyH_take (i := 11) (v := ?vn11) (held_at (held_s (held_s (held_s (held_s (held_s (held_s (held_s (held_s (held_s (held_s (held_s held_z)))))))))))) (by kernel_rfl) (by kernel_rfl) (by kernel_rfl) (fun _ _ _ h => h) (Or.inl ⟨by rfl, ?hyn11⟩) (by assumption) ?restn11
          case hyn11 => intro w9 hSw; (try dsimp only at hSw); go_simp; all_goals with_reducible rfl
          try simp only [Act.put, List.setIfInBounds_toArray, List.set_cons_zero, List.set_cons_succ]
          refine wpAnyH_take (i := 12) (v := ?vn12) (held_at (held_s (held_s (held_s (held_s (held_s (held_s (held_s (held_s (held_s (held_s (held_s (held_s held_z))))))))))))) (by kernel_rfl) (by kernel_rfl) (by kernel_rfl) (fun _ _ _ h => h) (Or.inl ⟨by rfl, ?hyn12⟩) (by assumption) ?restn12
          case hyn12 => intro w9 hSw; (try dsimp only at hSw); go_simp; all_goals with_reducible rfl
          try simp only [Act.put, List.setIfInBounds_toArray, List.set_cons_zero, List.set_cons_succ]
          refine wpAnyH_take (i := 13) (v := ?vn13) (held_at (held_s (held_s (held_s (held_s (held_s (held_s (held_s (held_s (held_s (held_s (held_s (held_s (held_s held_z)))))))))))))) (by kernel_rfl) (by kernel_rfl) (by kernel_rfl) (fun _ _ _ h => h) (Or.inl ⟨by rfl, ?hyn13⟩) (by assumption) ?restn13
          case hyn13 => intro w9 hSw; (try dsimp only at hSw); go_simp; all_goals with_reducible rfl
          try simp only [Act.put, List.setIfInBounds_toArray, List.set_cons_zero, List.set_cons_succ]
          refine wpAnyH_ready (rs := [14]) (by kernel_rfl) (by simp) ?_
          refine AllReadyH.cons (held_at (held_s (held_s (held_s (held_s (held_s (held_s (held_s (held_s (held_s (held_s (held_s (held_s (held_s (held_s held_z))))))))))))))) (fun K hK => ?_) AllReadyH.nil
          go_simp
          go_at_call 11; (with_reducible refine (r04Right_any _ p _ (HP.out.old G)).mono ?_); rintro e w' ⟨rfl, rfl⟩; rw [HPK.out]
          try go_wp2_with fail
          refine hK.out _ _ ?_ (fun hHeld => ?_)
          · exact ⟨BT.cell, BU.cell⟩
          clear hK K
          try simp only [Act.put, List.setIfInBounds_toArray, List.set_cons_zero, List.set_cons_succ]
          refine wpAnyH_take (i := 15) (v := ?vn15) (held_at (held_s (held_s (held_s (held_s (held_s (held_s (held_s (held_s (held_s (held_s (held_s (held_s (held_s (held_s (held_s held_z)))))))))))))))) (by kernel_rfl) (by kernel_rfl) (by kernel_rfl) (fun _ _ _ h => h) (Or.inl ⟨by rfl, ?hyn15⟩) (by assumption) ?restn15
          case hyn15 => intro w9 hSw; (try dsimp only at hSw); go_simp; all_goals with_reducible rfl
          try simp only [Act.put, List.setIfInBounds_toArray, List.set_cons_zero, List.set_cons_succ]
          refine wpAnyH_take (i := 16) (v := ?vn16) (held_at (held_s (held_s (held_s (held_s (held_s (held_s (held_s (held_s (held_s (held_s (held_s (held_s (held_s (held_s (held_s (held_s held_z))))))))))))))))) (by kernel_rfl) (by kernel_rfl) (by kernel_rfl) (fun _ _ _ h => h) (Or.inl ⟨by rfl, ?hyn16⟩) (by assumption) ?restn16
          case hyn16 => intro w9 hSw; (try dsimp only at hSw); go_simp; all_goals with_reducible rfl
          try simp only [Act.put, List.setIfInBounds_toArray, List.set_cons_zero, List.set_cons_succ]
          refine wpAnyH_take (i := 17) (v := undef) (held_at (held_s (held_s (held_s (held_s (held_s (held_s (held_s (held_s (held_s (held_s (held_s (held_s (held_s (held_s (held_s (held_s (held_s held_z)))))))))))))))))) (by kernel_rfl) (by kernel_rfl) (by kernel_rfl) (fun _ _ _ h => h) (Or.inr ⟨by rfl, rfl⟩) (by assumption) ?_
          try simp only [Act.put, List.setIfInBounds_toArray, List.set_cons_zero, List.set_cons_succ]
          refine wpAnyH_take (i := 18) (v := undef) (held_at (held_s (held_s (held_s (held_s (held_s (held_s (held_s (held_s (held_s (held_s (held_s (held_s (held_s (held_s (held_s (held_s (held_s (held_s held_z))))))))))))))))))) (by kernel_rfl) (by kernel_rfl) (by kernel_rfl) (fun _ _ _ h => h) (Or.inr ⟨by rfl, rfl⟩) (by assumption) ?_
          try simp only [Act.put, List.setIfInBounds_toArray, List.set_cons_zero, List.set_cons_succ]
          refine wpAnyH_take (i := 19) (v := undef) (held_at (held_s (held_s (held_s (held_s (held_s (held_s (held_s (held_s (held_s (held_s (held_s (held_s (held_s (held_s (held_s (held_s (held_s (held_s (held_s held_z)))))))))))))))))))) (by kernel_rfl) (by kernel_rfl) (by kernel_rfl) (fun _ _ _ h => h) (Or.inr ⟨by rfl, rfl⟩) (by assumption) ?_
          try simp only [Act.put, List.setIfInBounds_toArray, List.set_cons_zero, List.set_cons_succ]
          refine wpAnyH_take (i := 20) (v := undef) (held_at (held_s (held_s (held_s (held_s (held_s (held_s (held_s (held_s (held_s (held_s (held_s (held_s (held_s (held_s (held_s (held_s (held_s (held_s (held_s (held_s held_z))))))))))))))))))))) (by kernel_rfl) (by kernel_rfl) (by kernel_rfl) (fun _ _ _ h => h) (Or.inr ⟨by rfl, rfl⟩) (by assumption) ?_
          try simp only [Act.put, List.setIfInBounds_toArray, List.set_cons_zero, List.set_cons_succ]
          refine wpAnyH_take (i := 21) (v := undef) (held_at (held_s (held_s (held_s (held_s (held_s (held_s (held_s (held_s (held_s (held_s (held_s (held_s (held_s (held_s (held_s (held_s (held_s (held_s (held_s (held_s (held_s held_z)))))))))))))))))))))) (by kernel_rfl) (by kernel_rfl) (by kernel_rfl) (fun _ _ _ h => h) (Or.inr ⟨by rfl, rfl⟩) (by assumption) ?_
          try simp only [Act.put, List.setIfInBounds_toArray, List.set_cons_zero, List.set_cons_succ]
          refine wpAnyH_take (i := 22) (v := undef) (held_at (held_s (held_s (held_s (held_s (held_s (held_s (held_s (held_s (held_s (held_s (held_s (held_s (held_s (held_s (held_s (held_s (held_s (held_s (held_s (held_s (held_s (held_s held_z))))))))))))))))))))))) (by kernel_rfl) (by kernel_rfl) (by kernel_rfl) (fun _ _ _ h => h) (Or.inr ⟨by rfl, rfl⟩) (by assumption) ?_
          try simp only [Act.put, List.setIfInBounds_toArray, List.set_cons_zero, List.set_cons_succ]
          refine wpAnyH_take (i := 23) (v := undef) (held_at (held_s (held_s (held_s (held_s (held_s (held_s (held_s (held_s (held_s (held_s (held_s (held_s (held_s (held_s (held_s (held_s (held_s (held_s (held_s (held_s (held_s (held_s (held_s held_z)))))))))))))))))))))))) (by kernel_rfl) (by kernel_rfl) (by kernel_rfl) (fun _ _ _ h => h) (Or.inr ⟨by rfl, rfl⟩) (by assumption) ?_
          try simp only [Act.put, List.setIfInBounds_toArray, List.set_cons_zero, List.set_cons_succ]
          refine wpAnyH_take (i := 24) (v := undef) (held_at (held_s (held_s (held_s (held_s (held_s (held_s (held_s (held_s (held_s (held_s (held_s (held_s (held_s (held_s (held_s (held_s (held_s (held_s (held_s (held_s (held_s (held_s (held_s (held_s held_z))))))))))))))))))))))))) (by kernel_rfl) (by kernel_rfl) (by kernel_rfl) (fun _ _ _ h => h) (Or.inr ⟨by rfl, rfl⟩) (by assumption) ?_
          try simp only [Act.put, List.setIfInBounds_toArray, List.set_cons_zero, List.set_cons_succ]
          refine wpAnyH_take (i := 25) (v := undef) (held_at (held_s (held_s (held_s (held_s (held_s (held_s (held_s (held_s (held_s (held_s (held_s (held_s (held_s (held_s (held_s (held_s (held_s (held_s (held_s (held_s (held_s (held_s (held_s (held_s (held_s held_z)))))))))))))))))))))))))) (by kernel_rfl) (by kernel_rfl) (by kernel_rfl) (fun _ _ _ h => h) (Or.inr ⟨by rfl, rfl⟩) (by assumption) ?_
          try simp only [Act.put, List.setIfInBounds_toArray, List.set_cons_zero, List.set_cons_succ]
          refine wpAnyH_take (i := 26) (v := undef) (held_at (held_s (held_s (held_s (held_s (held_s (held_s (held_s (held_s (held_s (held_s (held_s (held_s (held_s (held_s (held_s (held_s (held_s (held_s (held_s (held_s (held_s (held_s (held_s (held_s (held_s (held_s held_z))))))))))))))))))))))))))) (by kernel_rfl) (by kernel_rfl) (by kernel_rfl) (fun _ _ _ h => h) (Or.inr ⟨by rfl, rfl⟩) (by assumption) ?_
          try simp only [Act.put, List.setIfInBounds_toArray, List.set_cons_zero, List.set_cons_succ]
          refine wpAnyH_take (i := 27) (v := undef) (held_at (held_s (held_s (held_s (held_s (held_s (held_s (held_s (held_s (held_s (held_s (held_s (held_s (held_s (held_s (held_s (held_s (held_s (held_s (held_s (held_s (held_s (held_s (held_s (held_s (held_s (held_s (held_s held_z)))))))))))))))))))))))))))) (by kernel_rfl) (by kernel_rfl) (by kernel_rfl) (fun _ _ _ h => h) (Or.inr ⟨by rfl, rfl⟩) (by assumption) ?_
          try simp only [Act.put, List.setIfInBounds_toArray, List.set_cons_zero, List.set_cons_succ]
          refine wpAnyH_take (i := 28) (v := undef) (held_at (held_s (held_s (held_s (held_s (held_s (held_s (held_s (held_s (held_s (held_s (held_s (held_s (held_s (held_s (held_s (held_s (held_s (held_s (held_s (held_s (held_s (held_s (held_s (held_s (held_s (held_s (held_s (held_s held_z))))))))))))))))))))))))))))) (by kernel_rfl) (by kernel_rfl) (by kernel_rfl) (fun _ _ _ h => h) (Or.inr ⟨by rfl, rfl⟩) (by assumption) ?_
          try simp only [Act.put, List.setIfInBounds_toArray, List.set_cons_zero, List.set_cons_succ]
          refine wpAnyH_take (i := 29) (v := undef) (held_at (held_s (held_s (held_s (held_s (held_s (held_s (held_s (held_s (held_s (held_s (held_s (held_s (held_s (held_s (held_s (held_s (held_s (held_s (held_s (held_s (held_s (held_s (held_s (held_s (held_s (held_s (held_s (held_s (held_s held_z)))))))))))))))))))))))))))))) (by kernel_rfl) (by kernel_rfl) (by kernel_rfl) (fun _ _ _ h => h) (Or.inr ⟨by rfl, rfl⟩) (by assumption) ?_
          try simp only [Act.put, List.setIfInBounds_toArray, List.set_cons_zero, List.set_cons_succ]
          refine wpAnyH_take (i := 30) (v := ?vn30) (held_at (held_s (held_s (held_s (held_s (held_s (held_s (held_s (held_s (held_s (held_s (held_s (held_s (held_s (held_s (held_s (held_s (held_s (held_s (held_s (held_s (held_s (held_s (held_s (held_s (held_s (held_s (held_s (held_s (held_s (held_s held_z))))))))))))))))))))))))))))))) (by kernel_rfl) (by kernel_rfl) (by kernel_rfl) (fun _ _ _ h => h) (Or.inl ⟨by rfl, ?hyn30⟩) (by assumption) ?restn30
          case hyn30 => intro w9 hSw; (try dsimp only at hSw); go_simp; all_goals with_reducible rfl
          try simp only [Act.put, List.setIfInBounds_toArray, List.set_cons_zero, List.set_cons_succ]
          refine wpAnyH_take (i := 31) (v := ?vn31) (held_at (held_s (held_s (held_s (held_s (held_s (held_s (held_s (held_s (held_s (held_s (held_s (held_s (held_s (held_s (held_s (held_s (held_s (held_s (held_s (held_s (held_s (held_s (held_s (held_s (held_s (held_s (held_s (held_s (held_s (held_s (held_s held_z)))))))))))))))))))))))))))))))) (by kernel_rfl) (by kernel_rfl) (by kernel_rfl) (fun _ _ _ h => h) (Or.inl ⟨by rfl, ?hyn31⟩) (by assumption) ?restn31
          case hyn31 => intro w9 hSw; (try dsimp only at hSw); go_simp; all_goals with_reducible rfl
          try simp only [Act.put, List.setIfInBounds_toArray, List.set_cons_zero, List.set_cons_succ]
          refine wpAnyH_take (i := 32) (v := ?vn32) (held_at (held_s (held_s (held_s (held_s (held_s (held_s (held_s (held_s (held_s (held_s (held_s (held_s (held_s (held_s (held_s (held_s (held_s (held_s (held_s (held_s (held_s (held_s (held_s (held_s (held_s (held_s (held_s (held_s (held_s (held_s (held_s (held_s held_z))))))))))))))))))))))))))))))))) (by kernel_rfl) (by kernel_rfl) (by kernel_rfl) (fun _ _ _ h => h) (Or.inl ⟨by rfl, ?hyn32⟩) (by assumption) ?restn32
          case hyn32 => intro w9 hSw; (try dsimp only at hSw); go_simp; all_goals with_reducible rfl
          try simp only [Act.put, List.setIfInBounds_toArray, List.set_cons_zero, List.set_cons_succ]
          refine wpAnyH_done (by kernel_rfl) ?_ _
          go_wp2_with fail
          go_ret
          exact ⟨rfl, G⟩
end Go.Proofs.YtgffhiopbnkjbaaGreatDoor
