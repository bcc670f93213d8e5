/-
  Merged by program: XGpW.
-/
import Derived.Test.YtacekpdjapgfcaaGreatDoorD0ax
import Derived.Test.YtacekpdjapgfcaaGreatDoorD0as
import Derived.Test.YtacekpdjapgfcaaGreatDoorD0ao
import Derived.Test.YtacekpdjapgfcaaGreatDoorD0an
import Derived.Test.YtacekpdjapgfcaaGreatDoorD0am
import Derived.BigQuiet
import Derived.Deep.CutRange
import Derived.Deep.Cut
namespace Go.Proofs.YtacekpdjapgfcaaGreatDoor
open Go Go.RowKit Go.Q
set_option linter.unusedSimpArgs false
set_option maxRecDepth 100000 in
set_option maxHeartbeats 32000000 in
theorem gpWalk_any (v u : Value) (l0 : List Gen) (n0 : List (List Part)) (s : List UInt8) (w : World) (h : Gens w v l0) (hn : NameAt w u n0) (hE : Env w) :
    Calls Tryz.prog 6 #[v, u, str s] w fun e w' => e = .returned (.bool true) ∧ Fr (fun _ => False) w w' := by
  have HE := Lib.hid hE
  have HN := Lib.hid hn
  have HO := Lib.hid (lawFew_any v l0 w h)
  obtain ⟨m, hm⟩ : ∃ m, m = fewS l0 := ⟨_, rfl⟩
  have ff := few_fit (l := l0)
  have fb := few_wide (l := l0)
  have fl := few_most l0
  rw [← hm] at HO ff fb fl
  have FF := Lib.hid ff
  have FB := Lib.hid fb
  have hfew : ∀ g ∈ m, fewG g := fun g hg => (ff g hg).1
  have HFW := Lib.hid hfew
  clear h hE hn hm ff fb hfew
  go_enter Tryz.func6, Tryz.ntmps6
  go_wp2_with fail
  refine HO.out.mono ?_
  rintro e w1 ⟨⟨p1, c1, rfl, hx⟩, F1⟩
  have HM1 := Lib.hid hx
  have HF1 := Lib.hid F1
  clear HO hx F1
  obtain ⟨A, hA⟩ : ∃ A, A = namesS m := ⟨_, rfl⟩
  obtain ⟨B, hB⟩ : ∃ B, B = urisS m := ⟨_, rfl⟩
  have hal := names_len m
  have hbl := uris_len m
  have HO := Lib.hid (names_any _ m w1 HM1.out FF.out (by omega))
  rw [← hA] at HO hal
  rw [← hB] at hbl
  have HAE := Lib.hid hA
  have HBE := Lib.hid hB
  clear hA hB
  go_wp2_with fail
  refine HO.out.mono ?_
  rintro e w2 ⟨⟨p2, c2, rfl, hx⟩, F2⟩
  have HA2 := Lib.hid hx
  have HM2 := Lib.hid (HM1.out.old F2)
  have HF2 := Lib.hid (HF1.out.trans F2)
  clear HO hx F2 HM1 HF1
  have HO := Lib.hid (uris_any _ m w2 HM2.out HFW.out (by omega))
  rw [← HBE.out] at HO
  go_wp2_with fail
  refine HO.out.mono ?_
  rintro e w3 ⟨⟨p3, c3, rfl, hx⟩, F3⟩
  have HB3 := Lib.hid hx
  have HA3 := Lib.hid (HA2.out.old F3)
  have HM3 := Lib.hid (HM2.out.old F3)
  have HF3 := Lib.hid (HF2.out.trans F3)
  clear HO hx F3 HM2 HA2 HF2
  go_wp2_with fail
  go_loopg [10, 11, 12] m.length (fun g i k jj wr => ∃ j x y : Nat, g = m.length - j ∧ j ≤ m.length ∧ i = .int .i64 x ∧ k = .int .i64 y ∧ jj = .int .i64 j ∧ x ≤ j ∧ y ≤ j ∧ Hid (x = (namesS (m.take j)).length ∧ y = (urisS (m.take j)).length) ∧ Fr (fun _ => False) w3 wr)
  case atStart => exact ⟨0, 0, 0, rfl, Nat.zero_le _, rfl, rfl, rfl, Nat.le_refl _, Nat.le_refl _, Lib.hid ⟨by simp [namesS], by simp [urisS]⟩, Fr.refl _⟩
  case round =>
    obtain ⟨j, x, y, hg, hj, rfl, rfl, rfl, hxj, hyj, HXY, F⟩ := hrel
    have HG := Lib.hid hg
    clear hg
    by_cases hjl : j < m.length
    · obtain ⟨x1, hx1⟩ : ∃ g, m[j]? = some g := ⟨_, List.getElem?_eq_getElem hjl⟩
      obtain ⟨b, o, ab, cb, an, cn, rfl, -, hgx, e0, e1, e2⟩ := (HM3.out.old F).get hx1
      have hmem := List.mem_of_getElem? hx1
      have HFX := Lib.hid (HFW.out x1 hmem)
      have hsm := FB.out x1 hmem
      have HSM := Lib.hid hsm
      have HO := Lib.hid (lawGOf_any _ x1 wr wr hgx (Fr.refl _) hsm.1 hsm.2)
      have HF := Lib.hid F
      have hnn := names_next hx1
      have hun := uris_next hx1
      have hna : (decide (x1.k = 4) && genOk x1) = true → A[x]? = some x1.n := fun e => by
        rw [HAE.out, HXY.out.1]
        exact names_at hx1 e
      have hua : (decide (x1.k = 6) && genOk x1) = true → B[y]? = some x1.b := fun e => by
        rw [HBE.out, HXY.out.2]
        exact uris_at hx1 e
      have HNN := Lib.hid hnn
      have HUN := Lib.hid hun
      have HNA := Lib.hid hna
      have HUA := Lib.hid hua
      have r1 : (0 : Int) ≤ (j : Int) := by omega
      have r2 : (j : Int) < (m.length : Int) := by omega
      clear hx1 hgx hmem hsm F hnn hun hna hua
      go_wp2_with fail
      refine HO.out.mono ?_
      rintro e w5 ⟨⟨ab2, cb2, an2, cn2, rfl, hk⟩, F5⟩
      obtain ⟨z, hz⟩ : ∃ z, z = w5.heap.size := ⟨_, rfl⟩
      have F6 : Fr (fun _ => False) w5 (w5.alloc (.cells #[.int .i64 x1.k, .slice ab2 x1.b.length cb2, .slice an2 x1.n.length cn2] 46)) := (Fr.refl w5).alloc _
      have B6 := Blk.new w5 46 #[.int .i64 x1.k, .slice ab2 x1.b.length cb2, .slice an2 x1.n.length cn2]
      rw [← hz] at B6
      have HX6 := Lib.hid (And.intro (hk.now.1.old F6) (hk.now.2.old F6))
      have HF6 := Lib.hid ((HF.out.trans F5).trans F6)
      have HZ := Lib.hid hz
      clear HO hk F5 F6 hz e0 e1 e2 HF
      go_upto_region 8 with fail
      rw [← HZ.out]
      generalize w5.alloc (.cells #[.int .i64 x1.k, .slice ab2 x1.b.length cb2, .slice an2 x1.n.length cn2] 46) = w6 at *
      have HB6 := Lib.hid B6
      have HO := Lib.hid (r15Right_any _ x1 w6 ⟨_, _, rfl, HX6.out.1, HX6.out.2⟩ HFX.out)
      have e0 := B6.cell 0
      have e1 := B6.cell 1
      have e2 := B6.cell 2
      simp only [List.getElem?_toArray, List.getElem?_cons_succ, List.getElem?_cons_zero] at e0 e1 e2
      obtain ⟨d, hd⟩ : ∃ d, genOk x1 = d := ⟨_, rfl⟩
      rw [hd] at HO
      rw [hd] at HNN HUN HNA HUA
      clear hd B6
      cases d with
      | false =>
        have HNX := Lib.hid (show x = (namesS (m.take (j + 1))).length ∧ y = (urisS (m.take (j + 1))).length from ⟨by rw [HNN.out, ← HXY.out.1]; simp, by rw [HUN.out, ← HXY.out.2]; simp⟩)
        go_wp2_with fail
        refine HO.out.mono ?_
        rintro e w7 ⟨rfl, F7⟩
        have HF7 := Lib.hid (HF6.out.trans F7)
        clear HO F7 HF6 HX6 HB6 e0 e1 e2
        go_wp2_with fail
        go_roundg (m.length - (j + 1))
        case measure => rw [HG.out]; omega
        case rel => exact ⟨j + 1, x, y, rfl, by omega, by go_num, by go_num, by go_num, by omega, by omega, HNX, HF7.out⟩
      | true =>
        go_wp2_with fail
        refine HO.out.mono ?_
        rintro e w7 ⟨rfl, F7⟩
        have HF7 := Lib.hid (HF6.out.trans F7)
        have HX7 := Lib.hid (And.intro (HX6.out.1.old F7) (HX6.out.2.old F7))
        have HB7 := Lib.hid (HB6.out.fr F7 (fun h => h))
        clear HO F7 HF6 HX6 HB6 e0 e1 e2
        have e0 := HB7.out.cell 0
        have e1 := HB7.out.cell 1
        have e2 := HB7.out.cell 2
        simp only [List.getElem?_toArray, List.getElem?_cons_succ, List.getElem?_cons_zero] at e0 e1 e2
        by_cases h4 : x1.k = 4
        · have q1 : (x1.k == 4) = true := by rw [h4]; rfl
          have q2 : (x1.k == 6) = false := by rw [h4]; rfl
          have hax := HNA.out (by rw [decide_eq_true h4]; rfl)
          have hxl := (List.getElem?_eq_some_iff.1 hax).1
          have HNX := Lib.hid (show x + 1 = (namesS (m.take (j + 1))).length ∧ y = (urisS (m.take (j + 1))).length from ⟨by rw [HNN.out, ← HXY.out.1, decide_eq_true h4]; rfl, by rw [HUN.out, ← HXY.out.2, decide_eq_false (show ¬ x1.k = 6 by omega)]; rfl⟩)
          obtain ⟨b9, o9, an9, cn9, rfl, -, hn9, en⟩ := (HA3.out.old HF7.out).get hax
          have HN9 := Lib.hid hn9
          have r3 : (0 : Int) ≤ (x : Int) := by omega
          have r4 : (x : Int) < (A.length : Int) := by omega
          clear hax h4 hn9
          go_upto_region 10 with fail
          have hd1 : decide (A.length ≤ x) = false := decide_eq_false (by omega)
          have Bq := HB7.out.drew
          have G : Fr (fun _ => False) w7 w7.drew := (Fr.refl w7).drew
          have ed := G.cell en (fun h => h)
          clear e0 e1 e2 en
          go_region_held3 (fun w' => w'.cell? ⟨b9, o9 + x, none⟩ = some (.slice an9 x1.n.length cn9) ∧ ∀ j, w'.cell? ⟨z, j, none⟩ = (#[.int .i64 x1.k, .slice ab2 x1.b.length cb2, .slice an2 x1.n.length cn2] : Array Value)[j]?) (exact ⟨ed, Bq.cell⟩) (first
            | (go_at_call 14; refine (lawOf_any _ x1.n _ (HN9.out.old G) HSM.out.1 HSM.out.2).mono ?_; rintro e w' ⟨⟨a8, c8, rfl, hq⟩, F⟩; replace ed := F.cell ed (fun h => h); replace Bq := Bq.fr F (fun h => h); replace G := G.trans F; have HQ := Lib.hid hq.at; clear F hq)
            | (go_at_call 13; refine (r14Like_any _ _ x1.n x1.n _ HQ.out (HX7.out.2.old G)).mono ?_; rw [decide_eq_true rfl]; rintro e w' ⟨rfl, F⟩; replace ed := F.cell ed (fun h => h); replace Bq := Bq.fr F (fun h => h); replace G := G.trans F; clear F HQ))
          all_goals
            have HF8 := Lib.hid (HF7.out.trans G)
            have e0 := Bq.cell 0
            have e1 := Bq.cell 1
            have e2 := Bq.cell 2
            simp only [List.getElem?_toArray, List.getElem?_cons_succ, List.getElem?_cons_zero] at e0 e1 e2
            clear HF7 G Bq ed
            go_wp2_with fail
            go_roundg (m.length - (j + 1))
            case measure => rw [HG.out]; omega
            case rel => exact ⟨j + 1, x + 1, y, rfl, by omega, by go_num, by go_num, by go_num, by omega, by omega, HNX, HF8.out⟩
        · have q1 : (x1.k == 4) = false := beq_eq_false_iff_ne.2 h4
          by_cases h6 : x1.k = 6
          · have q2 : (x1.k == 6) = true := by rw [h6]; rfl
            have hay := HUA.out (by rw [decide_eq_true h6]; rfl)
            have hyl := (List.getElem?_eq_some_iff.1 hay).1
            have HNX := Lib.hid (show x = (namesS (m.take (j + 1))).length ∧ y + 1 = (urisS (m.take (j + 1))).length from ⟨by rw [HNN.out, ← HXY.out.1, decide_eq_false h4]; rfl, by rw [HUN.out, ← HXY.out.2, decide_eq_true h6]; rfl⟩)
            obtain ⟨a0, c0, he, -, -, hx⟩ := Strs.form (HB3.out.old HF7.out)
            simp only [Value.slice.injEq, true_and] at he
            obtain ⟨rfl, rfl⟩ := he
            obtain ⟨b9, o9, rfl, hy9⟩ := hx (by omega)
            have en := hy9 y _ hay
            have r3 : (0 : Int) ≤ (y : Int) := by omega
            have r4 : (y : Int) < (B.length : Int) := by omega
            have hst := str_of HX7.out.1
            have hst2 := str_of (HX7.out.1.old (Fr.refl w7).drew)
            have s1 : (x1.b == x1.b) = true := by simp
            have s2 : (x1.b != x1.b) = false := by simp
            clear hay h4 h6 hx hy9
            go_upto_region 14 with fail
            have hd1 : decide (B.length ≤ y) = false := decide_eq_false (by omega)
            have Bq := HB7.out.drew
            have ed := (show Fr (fun _ => False) w7 w7.drew from (Fr.refl w7).drew).cell en (fun h => h)
            clear hst e0 e1 e2 en
            go_region_held3 (fun w' => w'.cell? ⟨b9, o9 + y, none⟩ = some (str x1.b) ∧ (∀ j, w'.cell? ⟨z, j, none⟩ = (#[.int .i64 x1.k, .slice ab2 x1.b.length cb2, .slice an2 x1.n.length cn2] : Array Value)[j]?) ∧ (Go.convert 23 9 (.slice ab2 x1.b.length cb2)).run Tryz.prog w' = .ok (str x1.b) w') (exact ⟨ed, Bq.cell, hst2⟩) (first | fail)
            have HF8 := Lib.hid (HF7.out.drew)
            clear hst2 ed Bq
            go_wp2_with fail
            go_roundg (m.length - (j + 1))
            case measure => rw [HG.out]; omega
            case rel => exact ⟨j + 1, x, y + 1, rfl, by omega, by go_num, by go_num, by go_num, by omega, by omega, HNX, HF8.out⟩
          · have q2 : (x1.k == 6) = false := beq_eq_false_iff_ne.2 h6
            have HNX := Lib.hid (show x = (namesS (m.take (j + 1))).length ∧ y = (urisS (m.take (j + 1))).length from ⟨by rw [HNN.out, ← HXY.out.1, decide_eq_false h4]; rfl, by rw [HUN.out, ← HXY.out.2, decide_eq_false h6]; rfl⟩)
            clear h4 h6
            go_wp2_with fail
            go_roundg (m.length - (j + 1))
            case measure => rw [HG.out]; omega
            case rel => exact ⟨j + 1, x, y, rfl, by omega, by go_num, by go_num, by go_num, by omega, by omega, HNX, HF7.out⟩
    · obtain rfl : j = m.length := by omega
      have hxy := HXY.out
      rw [List.take_length, ← HAE.out, ← HBE.out] at hxy
      obtain ⟨rfl, rfl⟩ := hxy
      have HF3' := Lib.hid (HF3.out.trans F)
      have HO := Lib.hid (lawToK_any _ n0 w wr HN.out HF3'.out)
      clear F hjl
      go_wp2_with fail
      refine HO.out.mono ?_
      rintro e w5 ⟨⟨p5, c5, rfl, hq⟩, F5⟩
      have HX5 := Lib.hid hq.at
      have HF5 := Lib.hid (HF3'.out.trans F5)
      clear HO F5 hq HF3'
      obtain ⟨X, hX⟩ : ∃ X, X = cutName n0 := ⟨_, rfl⟩
      have hfit := cutName_fit n0
      rw [← hX] at HX5 hfit ⊢
      have HFT := Lib.hid hfit
      have hxl := hfit.1
      clear hX hfit
      obtain ⟨k, hk⟩ : ∃ k : Nat, k = min s.length 300 := ⟨_, rfl⟩
      have c1 : min (s.length : Int) 300 = (k : Int) := by omega
      have hsl := str_to s k (by omega)
      have hss := str_size s
      obtain ⟨t, ht⟩ : ∃ t, t = s.take k := ⟨_, rfl⟩
      have htl : t.length ≤ 1099511627776 := by rw [ht, List.length_take]; omega
      rw [← ht] at hsl
      have HX := Lib.hid HX5.out
      have HF5' := Lib.hid HF5.out
      have GB := Lib.hid (show Bag 42 w5 w5 [] from ⟨Fr.refl w5, List.nodup_nil, fun z hz => by simp at hz⟩)
      have GB0 := Lib.hid GB.out.drew
      have GB1 := Lib.hid GB.out.more.drew
      have GB2 := Lib.hid (bag_two GB.out).drew
      have GF0 := Lib.hid GB0.out.1
      have GF1 := Lib.hid GB1.out.1
      have GF2 := Lib.hid GB2.out.1
      have HDR := Lib.hid (fun W (F : Fr (fun _ => False) w5 W) => directory_any _ X W (HX.out.old F) HFT.out.1 (fun r hr => ⟨(HFT.out.2 r hr).2.1, fun p hp => ⟨(HFT.out.2 r hr).2.2 p hp, by have := (HFT.out.2 r hr).1 p hp; omega⟩⟩))
      have HUR := Lib.hid (fun W => uri_any t W htl)
      clear hk ht HF5 HX5 htl hxl hal hbl fl hj hxj hyj
      go_upto_region 18 with fail
      go_cut [15, 16] from 78 to 85 (fun s15 s16 wc => ∃ z1 z2 a6 c6 a7 c7, s15 = .pointer (some ⟨z1, 0, none⟩) ∧ s16 = .pointer (some ⟨z2, 0, none⟩) ∧ Blk wc z1 42 #[.int .i64 4, .slice none 0 0, .slice a6 X.length c6] ∧ Blk wc z2 42 #[.int .i64 6, .slice a7 t.length c7, .slice none 0 0] ∧ (NameAt wc (.slice a6 X.length c6) X ∧ Bytes wc (.slice a7 t.length c7) t) ∧ Fr (fun _ => False) w5 wc)
      case first =>
        go_region_held3 (fun _ => True) (exact True.intro) (first
          | (go_at_call 38; with_reducible refine (HDR.out _ GF0.out).mono ?_; rintro e w' ⟨⟨a6, c6, rfl, hq⟩, F⟩; have GC0 := Lib.hid (GB0.out.call F); have HN0 := Lib.hid (GB0.out.held hq); clear F hq GB0 GB1 GB2 GF0 GF1 GF2; have GC1 := Lib.hid GC0.out.more; have GC2 := Lib.hid (bag_two GC0.out); have HN1 := Lib.hid (Held.more HN0.out (.cells #[.int .i64 0, .slice none 0 0, .slice none 0 0] 42)); have HN2 := Lib.hid (held_two HN0.out (.cells #[.int .i64 0, .slice none 0 0, .slice none 0 0] 42) (.cells #[.int .i64 0, .slice none 0 0, .slice none 0 0] 42)))
          | (go_at_call 38; with_reducible refine (HDR.out _ GF1.out).mono ?_; rintro e w' ⟨⟨a6, c6, rfl, hq⟩, F⟩; have GC0 := Lib.hid (GB1.out.call F); have HN0 := Lib.hid (GB1.out.held hq); clear F hq GB0 GB1 GB2 GF0 GF1 GF2; have GC1 := Lib.hid GC0.out.more; have GC2 := Lib.hid (bag_two GC0.out); have HN1 := Lib.hid (Held.more HN0.out (.cells #[.int .i64 0, .slice none 0 0, .slice none 0 0] 42)); have HN2 := Lib.hid (held_two HN0.out (.cells #[.int .i64 0, .slice none 0 0, .slice none 0 0] 42) (.cells #[.int .i64 0, .slice none 0 0, .slice none 0 0] 42)))
          | (go_at_call 38; with_reducible refine (HDR.out _ GF2.out).mono ?_; rintro e w' ⟨⟨a6, c6, rfl, hq⟩, F⟩; have GC0 := Lib.hid (GB2.out.call F); have HN0 := Lib.hid (GB2.out.held hq); clear F hq GB0 GB1 GB2 GF0 GF1 GF2; have GC1 := Lib.hid GC0.out.more; have GC2 := Lib.hid (bag_two GC0.out); have HN1 := Lib.hid (Held.more HN0.out (.cells #[.int .i64 0, .slice none 0 0, .slice none 0 0] 42)); have HN2 := Lib.hid (held_two HN0.out (.cells #[.int .i64 0, .slice none 0 0, .slice none 0 0] 42) (.cells #[.int .i64 0, .slice none 0 0, .slice none 0 0] 42)))
          | (go_at_call 39; refine (HUR.out _).mono ?_; rintro e w' ⟨⟨a7, c7, rfl, hq⟩, F⟩; (first | (have HC0 := Lib.hid (GC0.out.call F); have HR0 := Lib.hid (Kept.both (HN0.out.old F) (GC0.out.held hq))) | (have HC0 := Lib.hid (GC1.out.call F); have HR0 := Lib.hid (Kept.both (HN1.out.old F) (GC1.out.held hq))) | (have HC0 := Lib.hid (GC2.out.call F); have HR0 := Lib.hid (Kept.both (HN2.out.old F) (GC2.out.held hq)))); clear F hq GC0 GC1 GC2 HN0 HN1 HN2; (first | (have HK := Lib.hid (HC0.out.fill HR0.out (.int .i64 4) (.slice none 0 0) (.slice a6 X.length c6) (.int .i64 6) (.slice a7 t.length c7) (.slice none 0 0)); clear HC0 HR0; have k0 := HK.out.2.2.1; have k1 := HK.out.2.2.2.1; have k2 := HK.out.2.2.2.2.1; have k3 := HK.out.2.2.2.2.2; have d00 := k0.cell 0; have f00 := k0.frozen 0; have d01 := k0.cell 1; have f01 := k0.frozen 1; have d02 := k0.cell 2; have f02 := k0.frozen 2; have d10 := k1.cell 0; have f10 := k1.frozen 0; have d11 := k1.cell 1; have f11 := k1.frozen 1; have d12 := k1.cell 2; have f12 := k1.frozen 2; have d20 := k2.cell 0; have f20 := k2.frozen 0; have d21 := k2.cell 1; have f21 := k2.frozen 1; have d22 := k2.cell 2; have f22 := k2.frozen 2; have d30 := k3.cell 0; have f30 := k3.frozen 0; have d31 := k3.cell 1; have f31 := k3.frozen 1; have d32 := k3.cell 2; have f32 := k3.frozen 2; simp only [put3, List.getElem?_toArray, List.getElem?_cons_succ, List.getElem?_cons_zero] at d00 f00 d01 f01 d02 f02 d10 f10 d11 f11 d12 f12 d20 f20 d21 f21 d22 f22 d30 f30 d31 f31 d32 f32; clear k0 k1 k2 k3) | (have HK := Lib.hid (HC0.out.fill1 HR0.out (.int .i64 4) (.slice none 0 0) (.slice a6 X.length c6) (.int .i64 6) (.slice a7 t.length c7) (.slice none 0 0)); clear HC0 HR0; have k0 := HK.out.2.2.1; have k1 := HK.out.2.2.2.1; have k2 := HK.out.2.2.2.2; have d00 := k0.cell 0; have f00 := k0.frozen 0; have d01 := k0.cell 1; have f01 := k0.frozen 1; have d02 := k0.cell 2; have f02 := k0.frozen 2; have d10 := k1.cell 0; have f10 := k1.frozen 0; have d11 := k1.cell 1; have f11 := k1.frozen 1; have d12 := k1.cell 2; have f12 := k1.frozen 2; have d20 := k2.cell 0; have f20 := k2.frozen 0; have d21 := k2.cell 1; have f21 := k2.frozen 1; have d22 := k2.cell 2; have f22 := k2.frozen 2; simp only [put3, List.getElem?_toArray, List.getElem?_cons_succ, List.getElem?_cons_zero] at d00 f00 d01 f01 d02 f02 d10 f10 d11 f11 d12 f12 d20 f20 d21 f21 d22 f22; clear k0 k1 k2) | (have HK := Lib.hid (HC0.out.fill0 HR0.out (.int .i64 4) (.slice none 0 0) (.slice a6 X.length c6) (.int .i64 6) (.slice a7 t.length c7) (.slice none 0 0)); clear HC0 HR0; have k0 := HK.out.2.2.2; have d00 := k0.cell 0; have f00 := k0.frozen 0; have d01 := k0.cell 1; have f01 := k0.frozen 1; have d02 := k0.cell 2; have f02 := k0.frozen 2; simp only [put3, List.getElem?_toArray, List.getElem?_cons_succ, List.getElem?_cons_zero] at d00 f00 d01 f01 d02 f02; clear k0))))
        all_goals
          try clear d30 d31 d32 f30 f31 f32
          try clear d20 d21 d22 f20 f21 f22
          try clear d10 d11 d12 f10 f11 f12
          try clear d00 d01 d02 f00 f01 f02
          have h1 := HK.out.1
          have h2 := HK.out.2.1
          have h3 := HK.out.2.2.1
          simp only [Done, put3] at h1 h2 h3
          replace h1 := Lib.hid h1
          replace h2 := Lib.hid h2
          replace h3 := Lib.hid h3
          clear HK
          go_wp2_with fail
          go_meet
          refine ⟨_, _, a6, c6, a7, c7, rfl, rfl, ?_⟩
          first
          | with_reducible exact h1.out
          | with_reducible exact h2.out
          | with_reducible exact h3.out
      case rest =>
        obtain ⟨z1, z2, a6, c6, a7, c7, rfl, rfl, B1, B2, ⟨hn6, hb7⟩, hF⟩ := hcut
        have HD := Lib.hid hn6
        have HU := Lib.hid hb7
        have HFC := Lib.hid (HF5'.out.trans hF)
        have HXC := Lib.hid (HX.out.old hF)
        have HEC := Lib.hid (HE.out.old HFC.out)
        have HXL := Lib.hid (show X.length ≤ 1000000 ∧ ∀ r ∈ X, r.length ≤ 1000000 from ⟨by have := HFT.out.1; omega, fun r hr => (HFT.out.2 r hr).2.1⟩)
        have HO1 := Lib.hid (fun W (F : Fr (fun _ => False) wc W) => lawOf_any _ X W (HD.out.old F) HXL.out.1 HXL.out.2)
        have HO2 := Lib.hid (fun W (F : Fr (fun _ => False) wc W) => lawOf_any _ X W (HXC.out.old F) HXL.out.1 HXL.out.2)
        clear hn6 hb7 hF GB GB0 GB1 GB2 GF0 GF1 GF2 HDR HUR HX HF5' HM3 HA3 HB3 HF3 HFW FF FB
        go_upto_region 19 with fail
        replace B1 := B1.drew
        replace B2 := B2.drew
        have G : Fr (fun _ => False) wc wc.drew := (Fr.refl wc).drew
        have hst := str_of (HU.out.old G)
        have q1 : (t == t) = true := by simp
        go_region_held3 (fun w' => (∀ j, w'.cell? ⟨z1, j, none⟩ = (#[.int .i64 4, .slice none 0 0, .slice a6 X.length c6] : Array Value)[j]?) ∧ (∀ j, w'.cell? ⟨z2, j, none⟩ = (#[.int .i64 6, .slice a7 t.length c7, .slice none 0 0] : Array Value)[j]?) ∧ (Go.convert 23 9 (.slice a7 t.length c7)).run Tryz.prog w' = .ok (str t) w') (exact ⟨B1.cell, B2.cell, hst⟩) (first
          | (go_at_call 25; refine (gnKnown_any _ (HEC.out.old G)).mono ?_; rintro e w' ⟨rfl, F⟩; replace B1 := B1.fr F (fun h => h); replace B2 := B2.fr F (fun h => h); replace G := G.trans F; replace hst := str_of (HU.out.old G); clear F)
          | (go_at_call 14; with_reducible refine (HO1.out _ G).mono ?_; rintro e w' ⟨⟨a8, c8, rfl, hq⟩, F⟩; replace B1 := B1.fr F (fun h => h); replace B2 := B2.fr F (fun h => h); replace G := G.trans F; replace hst := str_of (HU.out.old G); have HQ1 := Lib.hid hq.at; clear hq F HO1)
          | (go_at_call 14; with_reducible refine (HO2.out _ G).mono ?_; rintro e w' ⟨⟨a9, c9, rfl, hq⟩, F⟩; replace B1 := B1.fr F (fun h => h); replace B2 := B2.fr F (fun h => h); replace G := G.trans F; replace hst := str_of (HU.out.old G); replace HQ1 := Lib.hid (HQ1.out.old F); have HQ2 := Lib.hid hq.at; clear hq F HO2)
          | (go_at_call 13; refine (r14Like_any _ _ X X _ HQ1.out HQ2.out).mono ?_; rw [decide_eq_true rfl]; rintro e w' ⟨rfl, F⟩; replace B1 := B1.fr F (fun h => h); replace B2 := B2.fr F (fun h => h); replace G := G.trans F; replace hst := str_of (HU.out.old G); clear F HQ1 HQ2))
        all_goals
          have HG := Lib.hid (HFC.out.trans G)
          clear G
          go_wp2_with fail
          go_ret
          exact ⟨rfl, HG.out⟩
end Go.Proofs.YtacekpdjapgfcaaGreatDoor
