/-
  The walk of NameAdds, its first part: steps behind.
-/
import Derived.Test.YtgffhiopbnkjbaaGreatDoorA0c
import Derived.Test.YtgffhiopbnkjbaaGreatDoorA0d
import Derived.Deep.CutRange
import Derived.Deep.Cut
import Derived.Deep.CutBlock
namespace Go.Proofs.YtgffhiopbnkjbaaGreatDoor
open Go Go.RowKit Go.Q
set_option linter.unusedSimpArgs false

theorem add_str {w wa : World} {base m : Nat} {v : Value} {xs : List (List UInt8)} (hown : w.ownsRow base 9 1 v m (xs.map str)) (hb : base ≤ w.heap.size) (hm : m ≤ 109951162777) (x : List UInt8) (g : Nat) (F1 : Fr (fun _ => False) w wa) (BX : Blk wa g 9 #[str x]) :
    ∃ a c w', (Builtin.append_ #[53, 53] 53 #[v, .slice (some ⟨g, 0, none⟩) 1 1]).run Tryz.prog wa = .ok (.slice a (m + 1) c) w' ∧ w'.ownsRow base 9 1 (.slice a (m + 1) c) (m + 1) ((xs ++ [x]).map str) ∧ Fr (fun k => v.ownBlock = some k) w w' := by
  rw [List.map_append]
  obtain ⟨a, c, w', h1, h2, h3, -⟩ := add_gen Tryz.underlying53 info9 rfl (by decide) (by decide) hown hb F1 g [str x] rfl BX (by simp [Value.oneCell']) hm
  exact ⟨a, c, w', h1, h2, h3⟩
theorem nameOf_one (v : Value) (ks : List (List UInt8)) (w : World) (h : Strs w v ks) (hE : Env w) (hk : ∀ k ∈ ks, k.length ≤ 10000000) (hl : ks.length ≤ 1000000) :
    Calls Tryz.prog 25 #[v] w fun e w' => (∃ a c, e = .returned (.tuple #[.slice a (psVal (nameOfS ks)).length c, .int .i64 (errOf (nameOfS ks))]) ∧ NameAt w' (.slice a (psVal (nameOfS ks)).length c) (psVal (nameOfS ks))) ∧ Fr (fun _ => False) w w' :=
  (nameOf_any v ks w h hE hk hl).mono fun e w' ⟨h1, F⟩ => by
    refine ⟨?_, F⟩
    unfold NameOfOut at h1
    cases hr : nameOfS ks with
    | error x =>
      rw [hr] at h1
      exact ⟨none, 0, h1.1, NameAt.nil0 w'⟩
    | ok n =>
      rw [hr] at h1
      obtain ⟨u, h2, h3⟩ := h1
      obtain ⟨a, c, rfl⟩ := h3.shape
      exact ⟨a, c, h2, h3.at⟩
theorem r14Of_one (v : Value) (ks : List (List UInt8)) (w : World) (h : Strs w v ks) (hk : ∀ k ∈ ks, k.length ≤ 1000000) (hl : ks.length ≤ 1000000) :
    Calls Tryz.prog 26 #[v] w fun e w' => (∃ a c, e = .returned (.tuple #[.slice a (psVal (nameOfS ks)).length c, .int .i64 (errOf (nameOfS ks))]) ∧ NameAt w' (.slice a (psVal (nameOfS ks)).length c) (psVal (nameOfS ks))) ∧ Fr (fun _ => False) w w' :=
  (r14Of_any v ks w h hk hl).mono fun e w' ⟨h1, F⟩ => by
    refine ⟨?_, F⟩
    unfold RefOfOut at h1
    cases hr : nameOfS ks with
    | error x =>
      rw [hr] at h1
      exact ⟨none, 0, h1, NameAt.nil0 w'⟩
    | ok n =>
      rw [hr] at h1
      obtain ⟨a, c, h2, h3⟩ := h1
      exact ⟨a, c, h2, h3.at⟩
theorem psOf_ok (ks : List (List UInt8)) (hk : ∀ k ∈ ks, k.length ≤ 100) : nameOk (psVal (nameOfS ks)) = true ∧ (psVal (nameOfS ks)).length ≤ 64 ∧ ∀ r ∈ psVal (nameOfS ks), fewB r ∧ r.length ≤ 1 := by
  cases hr : nameOfS ks with
  | error x => exact ⟨rfl, by simp [psVal], by simp [psVal]⟩
  | ok n =>
    have h1 := nameOf_ok hr hk
    have h2 := nameOf_parts hr
    exact ⟨h1.1, h2.2, h1.2⟩
theorem flat_small : ∀ n : List (List Part), (∀ r ∈ n, r.length ≤ 1) → n.flatten.length ≤ n.length
  | [], _ => by simp
  | r :: t, h => by
    have h1 := h r (by simp)
    have h2 := flat_small t (fun q hq => h q (by simp [hq]))
    simp only [List.flatten_cons, List.length_append, List.length_cons]
    omega
theorem FRow.vals {K : Nat → Prop} {t : TypeId} {w : World} {base : Nat} {v : Value} {n : List (List Part)} (h : FRow K t w base v n) : ∃ us, Vals w v us ∧ us.length = n.length ∧ (∀ u ∈ us, u.oneCell' = true) ∧ ∀ (i : Nat) (u : Value) (r : List Part), us[i]? = some u → n[i]? = some r → Kept (fun W => Attrs W u r) K w := by
  obtain ⟨us, g1, g2, g3⟩ := h
  refine ⟨us, (Vals.of_own g1).1, g2, fun u hu => ?_, fun i u r h1 h2 => (g3 i u r h1 h2).weaken (fun k hk => .inr hk)⟩
  obtain ⟨i, hi⟩ := List.mem_iff_getElem?.1 hu
  have hil : i < n.length := by have := (List.getElem?_eq_some_iff.1 hi).1; omega
  obtain ⟨ax, cx, rfl⟩ := (g3 i u _ hi (List.getElem?_eq_getElem hil)).now.form
  rfl

set_option maxRecDepth 100000 in
set_option maxHeartbeats 8000000 in
theorem naWalk_any (va vb vl vk : Value) (a b : List (List Part)) (l : List (List UInt8)) (kind : List Int) (w : World) (ha : NameAt w va a) (hb : NameAt w vb b) (hl : Strs w vl l) (hk : Ints w vk kind) (hE : Env w) :
    Calls Tryz.prog 5 #[va, vb, vl, vk] w fun e w' => e = .returned (.bool true) ∧ Fr (fun _ => False) w w' := by
  obtain ⟨al, cl, rfl, -⟩ := Strs.form hl
  obtain ⟨ak, ck, rfl, -⟩ := Ints.form hk
  have HT := Lib.hid (lawTo_any va a w ha)
  have HB := Lib.hid hb
  have HL := Lib.hid hl
  have HKD := Lib.hid hk
  have HE := Lib.hid hE
  obtain ⟨X, hX⟩ : ∃ X, X = cutName a := ⟨_, rfl⟩
  obtain ⟨Y, hY⟩ : ∃ Y, Y = cutName b := ⟨_, rfl⟩
  have hXl : X.length ≤ 70 := by rw [hX]; exact cutName_len a
  have hYl : Y.length ≤ 70 := by rw [hY]; exact cutName_len b
  have HXf := Lib.hid (show ∀ r ∈ X, fewB r from by rw [hX]; exact cutName_few a)
  have HYf := Lib.hid (show ∀ r ∈ Y, fewB r from by rw [hY]; exact cutName_few b)
  have sm : ∀ (n : List (List Part)), ∀ r ∈ cutName n, r.length ≤ 20 ∧ ∀ p ∈ r, p.o.length ≤ 40 := fun n r hr => by
    obtain ⟨q, -, rfl⟩ := List.mem_map.1 hr
    refine ⟨cutStep_len q, fun p hp => ?_⟩
    obtain ⟨p', -, rfl⟩ := List.mem_map.1 hp
    show (p'.o.take 40).length ≤ 40
    rw [List.length_take]
    omega
  have HXr := Lib.hid (show ∀ r ∈ X, r.length ≤ 20 ∧ ∀ p ∈ r, p.o.length ≤ 40 from by rw [hX]; exact sm a)
  have HYr := Lib.hid (show ∀ r ∈ Y, r.length ≤ 20 ∧ ∀ p ∈ r, p.o.length ≤ 40 from by rw [hY]; exact sm b)
  have HY := Lib.hid hY
  rw [← hX] at HT
  clear ha hb hl hk hE hX hY sm
  go_enter Tryz.func5, Tryz.ntmps5
  go_wp2_with fail
  refine HT.out.mono ?_
  rintro e w1 ⟨⟨a1, c1, rfl, hx⟩, F1⟩
  have HX1 := Lib.hid hx.at
  have HT2 := lawTo_any vb b w1 (HB.out.old F1)
  rw [← HY.out] at HT2
  have HT3 := Lib.hid HT2
  have HF1 := Lib.hid F1
  clear hx F1 HT HT2
  go_wp2_with fail
  refine HT3.out.mono ?_
  rintro e w2 ⟨⟨a2, c2, rfl, hy⟩, F2⟩
  have HY2 := Lib.hid hy.at
  have HX2 := Lib.hid (HX1.out.old F2)
  have HF2 := Lib.hid (HF1.out.trans F2)
  clear hy F2 HT3 HX1 HF1
  obtain ⟨z, hz⟩ : ∃ z, z = w2.heap.size := ⟨_, rfl⟩
  have F3 : Fr (fun _ => False) w2 (w2.alloc (.cells #[] 60)) := (Fr.refl w2).alloc _
  have hs3 : z < (w2.alloc (.cells #[] 60)).heap.size := by rw [World.size_alloc]; omega
  have N3 : GRow 1 RStep (fun _ => False) 60 (w2.alloc (.cells #[] 60)) w2.heap.size (.slice (some ⟨w2.heap.size, 0, none⟩) 0 0) [] := ⟨[], own_block (Blk.new w2 60 #[]) 0 (Nat.le_refl _) (Nat.zero_le _) w2.heap.size (Nat.le_refl _), fun i u h => by simp at h⟩
  have HN3 := Lib.hid N3
  have HF3 := Lib.hid F3
  have HZ := Lib.hid hz
  have HO := Lib.hid (lawOfK_any _ X w2 _ HX2.out F3 (by omega) (fun r hr => by have := (HXr.out r hr).1; omega))
  clear hz F3 N3
  go_wp2_with fail
  refine HO.out.mono ?_
  rintro e w4 ⟨⟨a4, c4, rfl, hq⟩, F4⟩
  have hs4 := F4.size
  have HF4 := Lib.hid (HF3.out.trans F4)
  obtain ⟨us, g1, g2, g3, g4⟩ := FRow.vals hq
  obtain ⟨a5, c5, w5, hrun, hrow, F5⟩ := GRow.addAll (s := 46) Tryz.underlying46 info60 rfl (by decide) (HN3.out.old F4) (Nat.le_trans HF3.out.size hs4) g1 g2 g3 (fun i u x hu hx => step_of ((g4 i u x hu hx).weaken (fun k hk => by
    rcases hk with hk | hk
    · simp only [Value.ownBlock, Option.some.injEq] at hk
      have := HZ.out
      exact ⟨by omega, by omega⟩
    · exact hk.elim))) (by simp; omega)
  simp only [List.length_nil, Nat.zero_add, List.nil_append] at hrun hrow
  have G5 : Fr (fun _ => False) w2 w5 := HF4.out.trans' F5 (fun i hi e => by
    simp only [Value.ownBlock, Option.some.injEq] at e
    omega)
  have HRUN := Lib.hid hrun
  have HN5 := Lib.hid hrow
  have HF5 := Lib.hid G5
  have hs5 := F5.size
  have HKP5 := Lib.hid hrow.keep
  have HO2 := Lib.hid (lawOfK_any _ Y w2 w5 HY2.out G5 (by omega) (fun r hr => by have := (HYr.out r hr).1; omega))
  clear hq F4 HF4 g1 g2 g3 g4 hrun hrow F5 G5 HF3 HO HN3
  go_wp2_with (at_builtin; refine wpList_append_run (by rfl) (.tmp 33) (.tmp 35) 46 (by rfl) _ w5 (by exact HRUN.out) ?_)
  refine HO2.out.mono ?_
  rintro e w6 ⟨⟨a6, c6, rfl, hq⟩, F6⟩
  have HF6 := Lib.hid (HF5.out.trans F6)
  have hs6 := F6.size
  obtain ⟨us, g1, g2, g3, g4⟩ := FRow.vals hq
  have hkp5 := HKP5.out
  obtain ⟨a7, c7, w7, hrun, hrow, F7⟩ := GRow.addAll (s := 46) Tryz.underlying46 info60 rfl (by decide) (HN5.out.old F6) HF6.out.size g1 g2 g3 (fun i u x hu hx => step_of ((g4 i u x hu hx).weaken (fun k hk => by
    rcases hk with hk | hk
    · have := hkp5 k hk
      exact ⟨by omega, by omega⟩
    · exact hk.elim))) (by omega)
  have G7 : Fr (fun _ => False) w2 w7 := HF6.out.trans' F7 (fun i hi e => by have := (hkp5 i e).1; omega)
  obtain ⟨P, hP⟩ : ∃ P, P = X ++ Y := ⟨_, rfl⟩
  have hPl : P.length = X.length + Y.length := by rw [hP, List.length_append]
  rw [← hP, ← hPl] at hrow
  have HP7 := Lib.hid ((hrow.at (by decide)).name)
  have HRUN2 := Lib.hid hrun
  rw [← hPl] at HRUN2
  have HX7 := Lib.hid (HX2.out.old G7)
  have HY7 := Lib.hid (HY2.out.old G7)
  have HF7 := Lib.hid (HF2.out.trans G7)
  have HPP := Lib.hid hP
  have hPl2 : P.length ≤ 140 := by omega
  have HPL := Lib.hid hPl
  clear hq g1 g2 g3 g4 hrun hrow F6 F7 G7 hkp5 HF6 HF5 HN5 HX2 HY2 HF2 HO2 HRUN HKP5 hP hPl hs3 hs4 hs5 hs6 HZ
  go_wp2_with (at_builtin; refine wpList_append_run (by rfl) (.tmp 36) (.tmp 38) 46 (by rfl) _ w7 (by exact HRUN2.out) ?_)
  have HAD := Lib.hid (nameAdd_any _ _ X Y w7 HX7.out HY7.out (by omega) (by omega) (fun r hr => by
    rcases List.mem_append.1 hr with h | h
    · exact ⟨HXf.out r h, by have := (HXr.out r h).1; omega, fun p hp => by have := (HXr.out r h).2 p hp; omega⟩
    · exact ⟨HYf.out r h, by have := (HYr.out r h).1; omega, fun p hp => by have := (HYr.out r h).2 p hp; omega⟩))
  rw [← HPP.out] at HAD
  refine HAD.out.mono ?_
  rintro e w8 ⟨hout, F8⟩
  have HX8 := Lib.hid (HX7.out.old F8)
  have HP8 := Lib.hid (HP7.out.old F8)
  have HF8 := Lib.hid (HF7.out.trans F8)
  have hPf : ∀ r ∈ P, fewB r := fun r hr => by
    rw [HPP.out] at hr
    rcases List.mem_append.1 hr with h | h
    · exact HXf.out r h
    · exact HYf.out r h
  have hPr : ∀ r ∈ P, r.length ≤ 1000000 := fun r hr => by
    rw [HPP.out] at hr
    rcases List.mem_append.1 hr with h | h
    · have := (HXr.out r h).1; omega
    · have := (HYr.out r h).1; omega
  have HPF := Lib.hid hPf
  have HPR := Lib.hid hPr
  have HR := Lib.hid (r14Right_any _ P w8 HP8.out hPf)
  unfold AddOut at hout
  have hshape : ∃ a8 m8 c8 x8, e = .returned (.tuple #[.slice a8 m8 c8, .int .i64 x8]) := by
    cases hok : nameOk P with
    | true => rw [if_pos hok] at hout; obtain ⟨a, c, h, -⟩ := hout; exact ⟨_, _, _, _, h⟩
    | false => rw [if_neg (by rw [hok]; simp)] at hout; exact ⟨_, _, _, _, hout⟩
  obtain ⟨a8, m8, c8, x8, rfl⟩ := hshape
  go_upto_region 4 with fail
  go_cut [78] from 46 to 78 (fun s wc => s = .bool false ∧ Fr (fun _ => False) w wc)
  case first =>
    have hcase : nameOk P = true ∨ nameOk P = false := by cases nameOk P <;> simp
    clear F8 HAD HX7 HY7 HF7 HP7 hPf hPr HRUN2
    rcases hcase with hok | hok
    · skip
      rw [if_pos hok] at hout
      obtain ⟨a8', c8', he, hz⟩ := hout
      cases he
      have HZ8 := Lib.hid hz
      rw [hok] at HR
      have hun : underS P X = true := by
        rw [HPP.out] at hok ⊢
        exact under_add hok
      have HUN := Lib.hid hun
      have HOK := Lib.hid hok
      clear hz hok hun
      go_wp2_with fail
      refine HR.out.mono ?_
      rintro e w9 ⟨rfl, F9⟩
      have HX9 := Lib.hid (HX8.out.old F9)
      have HP9 := Lib.hid (HP8.out.old F9)
      have HZ9 := Lib.hid (HZ8.out.old F9)
      have HF9 := Lib.hid (HF8.out.trans F9)
      have HO := Lib.hid (lawOf_any _ P w9 HZ9.out (by omega) HPR.out)
      clear F9 HX8 HP8 HZ8 HF8 HR
      go_wp2_with fail
      refine HO.out.mono ?_
      rintro e w10 ⟨⟨a10, c10, rfl, hq⟩, F10⟩
      have HX10 := Lib.hid (HX9.out.old F10)
      have HP10 := Lib.hid (HP9.out.old F10)
      have HZ10 := Lib.hid (HZ9.out.old F10)
      have HF10 := Lib.hid (HF9.out.trans F10)
      have HO := Lib.hid (like_self _ _ P w10 hq.at HP10.out)
      clear hq F10 HX9 HP9 HZ9 HF9
      go_wp2_with fail
      refine HO.out.mono ?_
      rintro e w11 ⟨rfl, F11⟩
      have HX11 := Lib.hid (HX10.out.old F11)
      have HP11 := Lib.hid (HP10.out.old F11)
      have HZ11 := Lib.hid (HZ10.out.old F11)
      have HF11 := Lib.hid (HF10.out.trans F11)
      have HO := nameUnder_any _ _ P X w11 HZ11.out HX11.out HPF.out HXf.out (HE.out.old HF11.out)
      rw [HUN.out] at HO
      replace HO := Lib.hid HO
      clear F11 HX10 HP10 HZ10 HF10
      go_wp2_with fail
      refine HO.out.mono ?_
      rintro e w12 ⟨rfl, F12⟩
      have HF12 := Lib.hid (HF11.out.trans F12)
      have HO := r14Right_any _ P w12 (HP11.out.old F12) HPF.out
      rw [HOK.out] at HO
      replace HO := Lib.hid HO
      clear F12 HX11 HP11 HZ11 HF11 HUN
      go_wp2_with fail
      refine HO.out.mono ?_
      rintro e w13 ⟨rfl, F13⟩
      have HF13 := Lib.hid (HF12.out.trans F13)
      clear F13 HF12 HO HOK
      go_wp2_with fail
      go_meet
      exact ⟨rfl, HF13.out⟩
    · skip
      rw [if_neg (by rw [hok]; simp)] at hout
      cases hout
      have HOK := Lib.hid hok
      rw [hok] at HR
      clear hok
      go_wp2_with fail
      refine HR.out.mono ?_
      rintro e w12 ⟨rfl, F12⟩
      have HF12 := Lib.hid (HF8.out.trans F12)
      have HO := r14Right_any _ P w12 (HP8.out.old F12) HPF.out
      rw [HOK.out] at HO
      replace HO := Lib.hid HO
      clear F12 HX8 HP8 HF8 HR
      go_wp2_with fail
      refine HO.out.mono ?_
      rintro e w13 ⟨rfl, F13⟩
      have HF13 := Lib.hid (HF12.out.trans F13)
      clear F13 HF12 HO HOK
      go_wp2_with fail
      go_meet
      exact ⟨rfl, HF13.out⟩
  case rest =>
    obtain ⟨rfl, F9⟩ := hcut
    have HF9 := Lib.hid F9
    have HF0S := Lib.hid F9.size
    clear HPF HPR HXf HYf HXr HYr HPP HPL F8 HAD HX7 HY7 HF7 HP7 hPf hPr HRUN2 hout HR HX8 HP8 HF8 F9 HB HY
    generalize wc = w9 at *
    go_upto_block 0 with fail
    go_cut [14, 15] from 79 to 102 (fun s t wd => ∃ (au : Option Addr) (cu : Nat), s = .slice au (cutTexts l).length cu ∧ Strs wd (.slice au (cutTexts l).length cu) (cutTexts l) ∧ Fr (fun _ => False) w wd)
    case first =>
      go_wp2_with fail
      go_loopg [14, 15] 70 (fun g u ii wr => ∃ (j : Nat) (au : Option Addr) (cu : Nat), g = 70 - j ∧ j ≤ l.length ∧ j ≤ 70 ∧ u = .slice au j cu ∧ ii = .int .i64 j ∧ wr.ownsRow w9.heap.size 9 1 (.slice au j cu) j (((l.take j).map (·.take 100)).map str) ∧ Fr (fun _ => False) w wr ∧ Fr (fun _ => False) w9 wr)
      case atStart => exact ⟨0, none, 0, rfl, Nat.zero_le _, Nat.zero_le _, rfl, rfl, ⟨rfl, .inl ⟨rfl, rfl⟩⟩, HF9.out, Fr.refl _⟩
      case round =>
        obtain ⟨j, au, cu, hg, hj, hj70, rfl, rfl, hown, F, F9⟩ := hrel
        have HG := Lib.hid hg
        have HOW := Lib.hid hown
        have HF := Lib.hid F
        have HF9 := Lib.hid F9
        have hml : ((l.take j).map (·.take 100)).length = j := by rw [List.length_map, List.length_take]; omega
        have HML := Lib.hid hml
        clear hg hown F F9 hml
        by_cases hway : j < l.length ∧ j < 70
        · obtain ⟨hjl, hj7⟩ := hway
          have q1 : (j : Int) < (l.length : Int) := by omega
          have q2 : (j : Int) < 70 := by omega
          obtain ⟨a0, c0, he, _, _, hx⟩ := Strs.form HL.out
          simp only [Value.slice.injEq, true_and] at he
          obtain ⟨rfl, rfl⟩ := he
          obtain ⟨b0, off, rfl, hy⟩ := hx (by omega)
          obtain ⟨t, ht⟩ : ∃ t, l[j]? = some t := ⟨_, List.getElem?_eq_getElem hjl⟩
          have e0 := hy j t ht
          obtain ⟨n, hn⟩ : ∃ n : Nat, n = min t.length 100 := ⟨_, rfl⟩
          have c1 : min (t.length : Int) 100 = (n : Int) := by omega
          have htt : t.take 100 = t.take n := by
            rcases Nat.le_total t.length 100 with h | h
            · rw [List.take_of_length_le h, List.take_of_length_le (by omega)]
            · rw [hn, Nat.min_eq_right h]
          have hsl := str_to t n (by omega)
          have hss := str_size t
          have r1 : (0 : Int) ≤ (j : Int) := by omega
          obtain ⟨wa, hwa⟩ : ∃ wa, wa = wr.drew.alloc (.cells #[str (t.take n)] 9) := ⟨_, rfl⟩
          have Fa : Fr (fun _ => False) wr wa := by rw [hwa]; exact (Fr.refl wr).drew.alloc _
          have BX : Blk wa wr.heap.size 9 #[str (t.take n)] := by rw [hwa]; exact Blk.new wr.drew _ _
          obtain ⟨a7, c7, w7', hrun, ho7, F7⟩ := add_str HOW.out HF9.out.size (by omega) (t.take n) wr.heap.size Fa BX
          have hkp := (Vals.of_own HOW.out).2
          have hs9 := HF9.out.size
          have G7 : Fr (fun _ => False) w9 w7' := HF9.out.trans' F7 (fun i hi e => by have := (hkp i e).1; omega)
          have hw9 := HF.out.size
          have hww : w.heap.size ≤ w9.heap.size := HF0S.out
          have HG7 := Lib.hid G7
          have HF7 := Lib.hid (HF.out.trans' F7 (fun i hi e => by have := (hkp i e).1; omega))
          have HMT := Lib.hid (show (l.take (j + 1)).map (·.take 100) = (l.take j).map (·.take 100) ++ [t.take n] from by rw [List.take_add_one, ht, List.map_append, ← htt]; rfl)
          have HRUN := Lib.hid hrun
          have HO7 := Lib.hid ho7
          have HC0 := Lib.hid (HF.out.drew.cell e0 (fun h => h))
          have HCa := Lib.hid ((HF.out.trans Fa).cell e0 (fun h => h))
          have HC7 := Lib.hid (HF7.out.cell e0 (fun h => h))
          rw [hwa] at HCa HRUN
          clear hx hy ht e0 hn htt hrun ho7 F7 G7 BX Fa hwa hkp hs9 hw9 hww
          go_upto_region 10 with fail
          go_region_held3 (fun w' => w'.cell? ⟨b0, off + j, none⟩ = some (str t)) (first | exact HC0.out | exact HCa.out | exact HC7.out) (first
            | (refine step_append_run (by rfl) (.tmp 89) (.tmp 101) 53 (by rfl) _ w7' (by exact HRUN.out) ?_)
            | fail)
          all_goals
            go_wp2_with fail
            go_roundg (70 - (j + 1))
            case measure => rw [HG.out]; omega
            case rel => exact ⟨j + 1, a7, c7, rfl, by omega, by omega, rfl, by go_num, by rw [HMT.out]; exact HO7.out, HF7.out, HG7.out⟩
        · have hM : (l.take j).map (·.take 100) = cutTexts l := by
            unfold cutTexts
            congr 1
            rcases Nat.lt_or_ge j l.length with h | h
            · rw [show j = 70 from by omega]
            · rw [List.take_of_length_le h, List.take_of_length_le (by omega)]
          have hMl : (cutTexts l).length = j := by rw [← hM, HML.out]
          have hown := HOW.out
          rw [hM, ← hMl] at hown
          have HMS := Lib.hid (Vals.of_own hown).1
          have HML2 := Lib.hid hMl
          clear hM hMl hown HOW HML HF9
          rcases Nat.lt_or_ge j l.length with h | h
          case' inl =>
            have q1 : (j : Int) < (l.length : Int) := by omega
            have q2 : ¬ (j : Int) < 70 := by omega
            clear hway h
            go_wp2_with fail
          case' inr =>
            have q1 : ¬ (j : Int) < (l.length : Int) := by omega
            clear hway h
            go_wp2_with fail
          all_goals
            go_meet
            exact ⟨au, cu, by rw [HML2.out], HMS.out, HF.out⟩
    case rest =>
      obtain ⟨au, cu, rfl, hms, F⟩ := hcut
      have HMS := Lib.hid hms
      have HF := Lib.hid F
      have HMK := Lib.hid (cutTexts_len l).2
      have hM70 := (cutTexts_len l).1
      clear hms F HF9
      obtain ⟨M, hMM⟩ : ∃ M, M = cutTexts l := ⟨_, rfl⟩
      rw [← hMM] at HMS HMK hM70 ⊢
      obtain ⟨rr, hrr⟩ : ∃ rr, rr = nameOfS M := ⟨_, rfl⟩
      have HPO := Lib.hid (psOf_ok M HMK.out)
      have hOF := nameOf_one _ M wc HMS.out (HE.out.old HF.out) (fun k hk => by have := HMK.out k hk; omega) (by omega)
      rw [← hrr] at hOF HPO
      have HOF := Lib.hid hOF
      have HRR := Lib.hid hrr
      clear hMM hrr hOF
      go_wp2_with fail
      refine HOF.out.mono ?_
      rintro e w10 ⟨⟨a10, c10, rfl, hN⟩, F10⟩
      have HN10 := Lib.hid hN
      have HF10 := Lib.hid (HF.out.trans F10)
      have hRO := r14Of_one _ M w10 (HMS.out.old F10) (fun k hk => by have := HMK.out k hk; omega) (by omega)
      rw [← HRR.out] at hRO
      have HRO := Lib.hid hRO
      clear hN F10 HOF hRO
      go_wp2_with fail
      refine HRO.out.mono ?_
      rintro e w11 ⟨⟨a11, c11, rfl, hV⟩, F11⟩
      have HN11 := Lib.hid (HN10.out.old F11)
      have HV11 := Lib.hid hV
      have HF11 := Lib.hid (HF10.out.trans F11)
      have HKN := Lib.hid (nmKnown_any _ (HE.out.old HF11.out))
      clear hV F11 HRO HN10 HF10
      go_wp2_with fail
      refine HKN.out.mono ?_
      rintro e w12 ⟨rfl, F12⟩
      have HN12 := Lib.hid (HN11.out.old F12)
      have HV12 := Lib.hid (HV11.out.old F12)
      have HF12 := Lib.hid (HF11.out.trans F12)
      have HO := Lib.hid (lawOf_any _ _ w12 HN12.out (by have := HPO.out.2.1; omega) (fun r hr => by have := (HPO.out.2.2 r hr).2; omega))
      clear F12 HKN HN11 HV11 HF11
      go_wp2_with fail
      refine HO.out.mono ?_
      rintro e w13 ⟨⟨aq, cq, rfl, hq⟩, F13⟩
      have HN13 := Lib.hid (HN12.out.old F13)
      have HV13 := Lib.hid (HV12.out.old F13)
      have HF13 := Lib.hid (HF12.out.trans F13)
      have HO := Lib.hid (like_self _ _ _ w13 hq.at HV13.out)
      clear F13 hq HN12 HV12 HF12
      go_wp2_with fail
      refine HO.out.mono ?_
      rintro e w14 ⟨rfl, F14⟩
      have HN14 := Lib.hid (HN13.out.old F14)
      have HV14 := Lib.hid (HV13.out.old F14)
      have HF14 := Lib.hid (HF13.out.trans F14)
      obtain ⟨mk, hmk⟩ : ∃ m : Nat, m = min kind.length 40 := ⟨_, rfl⟩
      have hkc := Ints.cut (HKD.out.old HF14.out) 40 mk hmk
      obtain ⟨_, _, hek, hck, -⟩ := Ints.form HKD.out
      simp only [Value.slice.injEq, true_and] at hek
      obtain ⟨-, rfl⟩ := hek
      have k1 : min (kind.length : Int) 40 = (mk : Int) := by omega
      have k2 : (0 : Int) ≤ (mk : Int) := by omega
      have k3 : (mk : Int) ≤ (ck : Int) := by omega
      obtain ⟨K2, hK2⟩ : ∃ K2, K2 = kind.take 40 := ⟨_, rfl⟩
      rw [← hK2] at hkc
      have hK2l : mk = K2.length := by rw [hK2, List.length_take, hmk]; omega
      have HK2L := Lib.hid hK2l
      have HKC := Lib.hid hkc
      clear F14 HO HN13 HV13 HF13 hmk hkc hK2 hK2l hck
      obtain ⟨N, hN⟩ : ∃ N, N = psVal rr := ⟨_, rfl⟩
      rw [← hN] at HN14 HV14 HPO ⊢
      have hN64 := HPO.out.2.1
      have hfl := flat_small N (fun r hr => (HPO.out.2.2 r hr).2)
      have HFL := Lib.hid hfl
      have HNN := Lib.hid hN
      clear hN hfl HRR HMS HMK HF
      go_wp2_with fail
      go_loopg [20, 21] N.length (fun g u ii wr => ∃ (i : Nat) (ws : List (List UInt8)) (a3 : Option Addr) (c3 : Nat), g = N.length - i ∧ i ≤ N.length ∧ u = .slice a3 ws.length c3 ∧ ii = .int .i64 i ∧ wr.ownsRow w14.heap.size 9 1 (.slice a3 ws.length c3) ws.length (ws.map str) ∧ Fr (fun _ => False) w wr ∧ Fr (fun _ => False) w14 wr ∧ ws = (N.take i).flatten.filterMap (partTextS K2))
      case atStart => exact ⟨0, [], none, 0, rfl, Nat.zero_le _, rfl, rfl, ⟨rfl, .inl ⟨rfl, rfl⟩⟩, HF14.out, Fr.refl _, by simp⟩
      case round =>
        obtain ⟨i, ws, a3, c3, hg, hi, rfl, rfl, hown, F, F14, hws⟩ := hrel
        have HG1 := Lib.hid hg
        have HOW := Lib.hid hown
        have HF := Lib.hid F
        have HG14 := Lib.hid F14
        have HWSE := Lib.hid hws
        clear hg hown F F14 hws
        by_cases hiN : i < N.length
        · have q5 : (i : Int) < (N.length : Int) := by omega
          obtain ⟨a0, cap0, he, _, _, hx⟩ := HV14.out
          simp only [Value.slice.injEq, true_and] at he
          obtain ⟨rfl, rfl⟩ := he
          obtain ⟨b0, off, rfl, hy⟩ := hx (by omega)
          obtain ⟨r, hr⟩ : ∃ r, N[i]? = some r := ⟨_, List.getElem?_eq_getElem hiN⟩
          obtain ⟨x, e0, hA⟩ := hy i r hr
          have HE0 := Lib.hid e0
          have hA' := hA
          obtain ⟨ar, cr, rfl⟩ := hA.form
          have HA := Lib.hid hA'
          have hrb := (HPO.out.2.2 r (List.mem_of_getElem? hr))
          have HRB := Lib.hid hrb
          have hr1 : r.length ≤ 1 := hrb.2
          have HSTEP := Lib.hid (want_step K2 hr)
          obtain ⟨pre, hpre⟩ : ∃ pre, pre = (N.take i).flatten := ⟨_, rfl⟩
          have hprel : pre.length ≤ 64 := by
            have h1 := flat_small (N.take i) (fun q hq => (HPO.out.2.2 q (List.mem_of_mem_take hq)).2)
            rw [List.length_take] at h1
            rw [hpre]
            omega
          rw [← hpre] at HWSE HSTEP
          have HPRE := Lib.hid hpre
          have r1 : (0 : Int) ≤ (i : Int) := by omega
          have HPL2 := Lib.hid hprel
          clear hx hy hr hA hA' hrb hpre e0 hprel
          obtain ⟨wo, hwo⟩ : ∃ wo : World, wo = wr := ⟨_, rfl⟩
          rw [← hwo] at HOW HF HG14
          subst hwo
          go_wp2_with fail
          go_loopg [20, 22] r.length (fun g u kk wr => ∃ (k : Nat) (ws : List (List UInt8)) (a3 : Option Addr) (c3 : Nat), g = r.length - k ∧ k ≤ r.length ∧ u = .slice a3 ws.length c3 ∧ kk = .int .i64 k ∧ wr.ownsRow w14.heap.size 9 1 (.slice a3 ws.length c3) ws.length (ws.map str) ∧ Fr (fun _ => False) w wr ∧ Fr (fun _ => False) w14 wr ∧ ws = (pre ++ r.take k).filterMap (partTextS K2))
          case atStart => exact ⟨0, ws, a3, c3, rfl, Nat.zero_le _, rfl, rfl, HOW.out, HF.out, HG14.out, by rw [HWSE.out]; simp⟩
          case round =>
            obtain ⟨k, ws, a3, c3, hg, hk, rfl, rfl, hown, F, F14, hws⟩ := hrel
            have HG2 := Lib.hid hg
            have HW := Lib.hid hown
            have HF2 := Lib.hid F
            have HG3 := Lib.hid F14
            have HWS := Lib.hid hws
            have e0 := F14.cell HE0.out (fun h => h)
            clear hg hown F F14 hws
            by_cases hkr : k < r.length
            · have q6 : (k : Int) < (r.length : Int) := by omega
              obtain ⟨a1', cap1, he, _, _, hx⟩ := HA.out
              simp only [Value.slice.injEq, true_and] at he
              obtain ⟨rfl, rfl⟩ := he
              obtain ⟨b1, o1, rfl, hy⟩ := hx (by omega)
              obtain ⟨p, hp⟩ : ∃ p, r[k]? = some p := ⟨_, List.getElem?_eq_getElem hkr⟩
              obtain ⟨x, y, e1, e2, hpx, hpy⟩ := hy k p hp
              obtain ⟨ax, cx, rfl, -⟩ := Ints.form hpx
              obtain ⟨ay, cy, rfl, -⟩ := Vals.form hpy
              have e1' : w14.cell? ⟨b1, o1 + k * 2, none⟩ = some (.slice ax p.o.length cx) := by rw [Nat.mul_comm]; exact e1
              have e2' : w14.cell? ⟨b1, o1 + k * 2 + 1, none⟩ = some (.slice ay p.b.length cy) := by rw [Nat.mul_comm]; exact e2
              have HE0' := Lib.hid HE0.out
              have HE1 := Lib.hid e1'
              have HPX := Lib.hid hpx
              have hpb := HRB.out.1 p (List.mem_of_getElem? hp)
              have HTX := Lib.hid (r14Text_any _ p.b wr (hpy.old HG3.out) (by omega))
              have HNX := Lib.hid ((want_next pre K2 hp).trans (by rw [← HWS.out]))
              have HSM := Lib.hid (show ws.length ≤ 100000 from by
                rw [HWS.out]
                have h1 := List.length_filterMap_le (partTextS K2) (pre ++ r.take k)
                have h2 := HPL2.out
                have h3 := HRB.out.2
                rw [List.length_append, List.length_take] at h1
                omega)
              have s1 : (0 : Int) ≤ (k : Int) := by omega
              have e2r := HG3.out.cell e2' (fun h => h)
              clear hx hy hp e1 e2 e1' e2' hpx hpy
              go_wp2_with fail
              refine HTX.out.mono ?_
              rintro e w16 ⟨hout, F16⟩
              unfold WordsOut at hout
              cases ht : textReadS p.b with
              | error xx =>
                rw [ht] at hout
                subst hout
                have hnx := HNX.out
                rw [part_none ht] at hnx
                simp only [Option.toList_none, List.append_nil] at hnx
                have HNX2 := Lib.hid hnx
                have FA : Fr (fun _ => False) w16 (w16.alloc (.cells #[.int .i64 0, .slice none 0 0] 25)) := (Fr.refl w16).alloc _
                have HSG := Lib.hid (r06Signs_any 0 (.slice none 0 0) [] (w16.alloc (.cells #[.int .i64 0, .slice none 0 0] 25)) (Vals.nil _) (by simp))
                have HF17 := Lib.hid ((HF2.out.trans F16).trans FA)
                have HG17 := Lib.hid ((HG3.out.trans F16).trans FA)
                have HW17 := Lib.hid (ownsRow_fr (ownsRow_fr HW.out F16 (fun _ _ h => h)) FA (fun _ _ h => h))
                clear ht hnx HNX F16 FA HTX
                go_wp2_with fail
                refine HSG.out.mono ?_
                rintro e w18 ⟨v5, rfl, -, F18⟩
                have HF18 := Lib.hid (HF17.out.trans F18)
                have HG18 := Lib.hid (HG17.out.trans F18)
                have HW18 := Lib.hid (ownsRow_fr HW17.out F18 (fun _ _ h => h))
                clear F18 HSG HF17 HG17 HW17
                go_wp2_with fail
                go_roundg (r.length - (k + 1))
                case measure => rw [HG2.out]; omega
                case rel => exact ⟨k + 1, ws, a3, c3, rfl, by omega, rfl, by go_num, HW18.out, HF18.out, HG18.out, HNX2.out.symm⟩
              | ok ktn =>
                obtain ⟨kd, t, nn⟩ := ktn
                rw [ht] at hout
                obtain ⟨u, rfl, hu⟩ := hout
                obtain ⟨hrt, htl⟩ := textRead_ok ht
                obtain ⟨au, cu, rfl, -⟩ := Vals.form hu
                have FA : Fr (fun _ => False) w16 (w16.alloc (.cells #[.int .i64 kd, .slice au t.length cu] 25)) := (Fr.refl w16).alloc _
                have hSG := r06Signs_any kd _ t (w16.alloc (.cells #[.int .i64 kd, .slice au t.length cu] 25)) (hu.old FA) (by omega)
                unfold RSigOut at hSG
                rw [sigR_iff, if_pos hrt] at hSG
                have HSG := Lib.hid hSG
                have HF17 := Lib.hid ((HF2.out.trans F16).trans FA)
                have HG17 := Lib.hid ((HG3.out.trans F16).trans FA)
                have HW17 := Lib.hid (ownsRow_fr (ownsRow_fr HW.out F16 (fun _ _ h => h)) FA (fun _ _ h => h))
                have HRT := Lib.hid hrt
                have HTR := Lib.hid ht
                have HSL := Lib.hid (signsS_len kd t)
                have htl2 : t.length ≤ 10000000 := by omega
                clear ht F16 FA HTX hu hSG hrt
                go_wp2_with fail
                refine HSG.out.mono ?_
                rintro e w18 ⟨v5, rfl, hs5, F18⟩
                have HS18 := Lib.hid hs5
                have HF18 := Lib.hid (HF17.out.trans F18)
                have HG18 := Lib.hid (HG17.out.trans F18)
                have HW18 := Lib.hid (ownsRow_fr HW17.out F18 (fun _ _ h => h))
                clear F18 HSG HF17 HG17 HW17 hs5
                by_cases hk0 : K2.length = 0
                · have hyes : K2 = [] ∨ K2 = p.o := .inl (List.length_eq_zero_iff.1 hk0)
                  have HYES := Lib.hid hyes
                  have t1 : ((K2.length : Int) == 0) = true := by rw [hk0]; rfl
                  have t2 : (K2.length == 0) = true := by rw [hk0]; rfl
                  have t3 : ((mk : Int) == 0) = true := by rw [HK2L.out]; exact t1
                  have t4 : (mk == 0) = true := by rw [HK2L.out]; exact t2
                  clear hk0 hyes t1 t2
                  go_wp2_with fail
                  have HUT := Lib.hid (r06Utf8_may _ (signsS kd t) w18 HS18.out (fun n hn => may12 (right_all HRT.out n hn)) (by have := HSL.out; omega))
                  go_wp2_with fail
                  refine HUT.out.mono ?_
                  rintro e w19 ⟨v19, rfl, hown19, F19⟩
                  obtain ⟨a19, m19, c19, rfl, rfl⟩ := own_shape hown19
                  have hcv := str_of (Vals.of_own hown19).1
                  have HF19 := Lib.hid (HF18.out.trans F19)
                  have HG19 := Lib.hid (HG18.out.trans F19)
                  have HW19 := Lib.hid (ownsRow_fr HW18.out F19 (fun _ _ h => h))
                  obtain ⟨a7, c7, w7', hrun, ho7, F7⟩ := add_str HW19.out HG19.out.size (by have := HSM.out; omega) (utf8S kd t) w19.heap.size ((Fr.refl w19).alloc (.cells #[str (utf8S kd t)] 9)) (Blk.new w19 9 #[str (utf8S kd t)])
                  have hkp := (Vals.of_own HW19.out).2
                  have hw14 := HF14.out.size
                  have HF7 := Lib.hid (HF19.out.trans' F7 (fun i hi e => by have := (hkp i e).1; omega))
                  have HG7 := Lib.hid (HG19.out.trans' F7 (fun i hi e => by have := (hkp i e).1; omega))
                  have hnx := HNX.out
                  rw [part_yes HTR.out HYES.out] at hnx
                  have HNX2 := Lib.hid hnx
                  have HRUN := Lib.hid hrun
                  have HO7 := Lib.hid ho7
                  clear hown19 F19 hrun ho7 F7 hkp hw14 hnx HUT
                  go_wp2_with (at_builtin; refine wpList_append_run (by rfl) (.tmp 182) (.tmp 186) 53 (by rfl) _ w7' (by exact HRUN.out) ?_)
                  go_roundg (r.length - (k + 1))
                  case measure => rw [HG2.out]; omega
                  case rel => exact ⟨k + 1, ws ++ [utf8S kd t], a7, c7, rfl, by omega, by rw [List.length_append]; rfl, by go_num, by rw [List.length_append]; exact HO7.out, HF7.out, HG7.out, by rw [HNX2.out]; rfl⟩
                · have t3 : ((mk : Int) == 0) = false := beq_eq_false_iff_ne.2 (by have := HK2L.out; omega)
                  have t4 : (mk == 0) = false := beq_eq_false_iff_ne.2 (by have := HK2L.out; omega)
                  have e1r := HG18.out.cell HE1.out (fun h => h)
                  have e0r := HG18.out.cell HE0.out (fun h => h)
                  have HSS := r04Same_any (.slice ak mk ck) _ K2 p.o w18 (HKC.out.old HG18.out) (HPX.out.old HG18.out)
                  by_cases hsame : K2 = p.o
                  · have HYES := Lib.hid (show K2 = [] ∨ K2 = p.o from .inr hsame)
                    rw [decide_eq_true hsame] at HSS
                    have HSS2 := Lib.hid HSS
                    clear HSS hsame hk0
                    go_wp2_with fail
                    refine HSS2.out.mono ?_
                    rintro e w18' ⟨rfl, F18⟩
                    replace HS18 := Lib.hid (HS18.out.old F18)
                    replace HF18 := Lib.hid (HF18.out.trans F18)
                    replace HG18 := Lib.hid (HG18.out.trans F18)
                    replace HW18 := Lib.hid (ownsRow_fr HW18.out F18 (fun _ _ h => h))
                    clear F18 HSS2 e1r e0r
                    rename_i w18o
                    generalize w18' = w18 at *
                    go_wp2_with fail
                    have HUT := Lib.hid (r06Utf8_may _ (signsS kd t) w18 HS18.out (fun n hn => may12 (right_all HRT.out n hn)) (by have := HSL.out; omega))
                    go_wp2_with fail
                    refine HUT.out.mono ?_
                    rintro e w19 ⟨v19, rfl, hown19, F19⟩
                    obtain ⟨a19, m19, c19, rfl, rfl⟩ := own_shape hown19
                    have hcv := str_of (Vals.of_own hown19).1
                    have HF19 := Lib.hid (HF18.out.trans F19)
                    have HG19 := Lib.hid (HG18.out.trans F19)
                    have HW19 := Lib.hid (ownsRow_fr HW18.out F19 (fun _ _ h => h))
                    obtain ⟨a7, c7, w7', hrun, ho7, F7⟩ := add_str HW19.out HG19.out.size (by have := HSM.out; omega) (utf8S kd t) w19.heap.size ((Fr.refl w19).alloc (.cells #[str (utf8S kd t)] 9)) (Blk.new w19 9 #[str (utf8S kd t)])
                    have hkp := (Vals.of_own HW19.out).2
                    have hw14 := HF14.out.size
                    have HF7 := Lib.hid (HF19.out.trans' F7 (fun i hi e => by have := (hkp i e).1; omega))
                    have HG7 := Lib.hid (HG19.out.trans' F7 (fun i hi e => by have := (hkp i e).1; omega))
                    have hnx := HNX.out
                    rw [part_yes HTR.out HYES.out] at hnx
                    have HNX2 := Lib.hid hnx
                    have HRUN := Lib.hid hrun
                    have HO7 := Lib.hid ho7
                    clear hown19 F19 hrun ho7 F7 hkp hw14 hnx HUT
                    go_wp2_with (at_builtin; refine wpList_append_run (by rfl) (.tmp 182) (.tmp 186) 53 (by rfl) _ w7' (by exact HRUN.out) ?_)
                    go_roundg (r.length - (k + 1))
                    case measure => rw [HG2.out]; omega
                    case rel => exact ⟨k + 1, ws ++ [utf8S kd t], a7, c7, rfl, by omega, by rw [List.length_append]; rfl, by go_num, by rw [List.length_append]; exact HO7.out, HF7.out, HG7.out, by rw [HNX2.out]; rfl⟩
                  · rw [decide_eq_false hsame] at HSS
                    have HSS2 := Lib.hid HSS
                    have hnx := HNX.out
                    rw [part_no (by rintro rfl; exact hk0 rfl) hsame] at hnx
                    simp only [Option.toList_none, List.append_nil] at hnx
                    have HNX2 := Lib.hid hnx
                    clear HSS hsame hk0 hnx HNX
                    go_wp2_with fail
                    refine HSS2.out.mono ?_
                    rintro e w18' ⟨rfl, F18⟩
                    replace HF18 := Lib.hid (HF18.out.trans F18)
                    replace HG18 := Lib.hid (HG18.out.trans F18)
                    replace HW18 := Lib.hid (ownsRow_fr HW18.out F18 (fun _ _ h => h))
                    clear F18 HSS2 e1r e0r
                    go_wp2_with fail
                    go_roundg (r.length - (k + 1))
                    case measure => rw [HG2.out]; omega
                    case rel => exact ⟨k + 1, ws, a3, c3, rfl, by omega, rfl, by go_num, HW18.out, HF18.out, HG18.out, HNX2.out.symm⟩
            · obtain rfl : k = r.length := by omega
              have q6 : ¬ (r.length : Int) < (r.length : Int) := by omega
              have HWE := Lib.hid (HWS.out.trans HSTEP.out.symm)
              go_wp2_with fail
              go_roundg (N.length - (i + 1))
              case measure => rw [HG1.out]; omega
              case rel => exact ⟨i + 1, ws, a3, c3, rfl, by omega, rfl, by go_num, HW.out, HF2.out, HG3.out, HWE.out⟩
        · obtain rfl : i = N.length := by omega
          have q5 : ¬ (N.length : Int) < (N.length : Int) := by omega
          have hWS := HWSE.out
          rw [List.take_length] at hWS
          have HWS2 := Lib.hid hWS
          have HTT := texts_any _ _ N K2 wr (HN14.out.old HG14.out) (HKC.out.old HG14.out) (fun r hr => (HPO.out.2.2 r hr).1) (HE.out.old HF.out)
          rw [texts_want HPO.out.1, show wantS N K2 = ws from hWS.symm] at HTT
          have HTX := Lib.hid HTT
          have hWSl : ws.length ≤ 64 := by
            have h1 := List.length_filterMap_le (partTextS K2) N.flatten
            have h2 := HFL.out
            rw [hWS]
            omega
          have HWV := Lib.hid (Vals.of_own HOW.out).1
          clear hWS HTT HOW
          go_wp2_with fail
          refine HTX.out.mono ?_
          rintro e w15 ⟨⟨x, rfl, hsx⟩, F15⟩
          obtain ⟨a15, c15, rfl, hc15, hm15, hx15⟩ := Strs.form hsx
          have HWV15 := Lib.hid (HWV.out.old F15)
          have HSX := Lib.hid hsx
          have HF15 := Lib.hid (HF.out.trans F15)
          clear F15 HTX hsx hx15 hm15
          have HWB := Lib.hid hWSl
          clear hWSl hc15
          go_wp2_with fail
          go_loopg [28] ws.length (fun g ii wr => ∃ i : Nat, g = ws.length - i ∧ i ≤ ws.length ∧ ii = .int .i64 i ∧ Fr (fun _ => False) w wr ∧ Fr (fun _ => False) w15 wr)
          case atStart => exact ⟨0, rfl, Nat.zero_le _, rfl, HF15.out, Fr.refl _⟩
          case round =>
            obtain ⟨i, hg, hi, rfl, F, F15⟩ := hrel
            have HG1 := Lib.hid hg
            have HF16 := Lib.hid F
            have HG15 := Lib.hid F15
            clear hg F F15
            by_cases hiw : i < ws.length
            · have q7 : (i : Int) < (ws.length : Int) := by omega
              have hb1 := HWB.out
              obtain ⟨_, _, he, _, _, hx⟩ := Strs.form HSX.out
              simp only [Value.slice.injEq, true_and] at he
              obtain ⟨rfl, rfl⟩ := he
              obtain ⟨b1, o1, rfl, hy⟩ := hx (by omega)
              obtain ⟨_, _, he, _, _, hx2⟩ := Strs.form (ks := ws) HWV15.out
              simp only [Value.slice.injEq, true_and] at he
              obtain ⟨rfl, rfl⟩ := he
              obtain ⟨b2, o2, rfl, hy2⟩ := hx2 (by omega)
              obtain ⟨t, ht⟩ : ∃ t, ws[i]? = some t := ⟨_, List.getElem?_eq_getElem hiw⟩
              have e1 := HG15.out.cell (hy i t ht) (fun h => h)
              have e2 := HG15.out.cell (hy2 i t ht) (fun h => h)
              have s0 : (0 : Int) ≤ (i : Int) := by omega
              have t1 : (t == t) = true := by simp
              have t2 : (t != t) = false := by simp
              clear hx hx2 hy hy2 ht
              go_upto_region 33 with fail
              go_quiet (fail)
              go_wp2_with fail
              go_roundg (ws.length - (i + 1))
              case measure => rw [HG1.out]; omega
              case rel => exact ⟨i + 1, rfl, by omega, by go_num, HF16.out.drewN _, HG15.out.drewN _⟩
            · have q7 : ¬ (i : Int) < (ws.length : Int) := by omega
              go_wp2_with fail
              go_ret
              exact ⟨rfl, HF16.out⟩
end Go.Proofs.YtgffhiopbnkjbaaGreatDoor
