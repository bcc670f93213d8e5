/-
  Merged by program: XNTextR XR06R XR08 XR02 XR04D XNLeast XNBld.
-/
import Derived.Test.YtacekpdjapgfcaaGreatDoorD0ag
import Derived.Test.YtacekpdjapgfcaaGreatDoorD0af
import Derived.Test.YtacekpdjapgfcaaGreatDoorD0ae
import Derived.Deep.RegionLaw
import Derived.Test.YtacekpdjapgfcaaGreatDoorD0ad
import Derived.Test.YtacekpdjapgfcaaGreatDoorD0ac
import Derived.Test.YtacekpdjapgfcaaGreatDoorD0aa
import Derived.Lib.Builder
import Derived.Lib.AppendStr
namespace Go.Q
open Go Go.RowKit
def textReadS (l : List UInt8) : Except Int (Int × List UInt8 × Nat) :=
  match readS l with
  | .error e => .error e
  | .ok (t, n, k) => if t.cls ≠ 0 ∨ t.made = true ∨ kindOk t.num = false then .error 4 else if l.length - k < n then .error 3 else
    if rightS t.num ((l.drop k).take n) = true then .ok (t.num, (l.drop k).take n, k + n) else .error 6
end Go.Q
namespace Go.Proofs.YtacekpdjapgfcaaGreatDoor
open Go Go.RowKit Go.Q
def TextOut (w w' : World) (c : Nat) (K : Nat → Prop) (bs : List UInt8) (p : Nat) (e : Ending) : Prop :=
  match textReadS (bs.drop p) with
  | .error x => e = .returned (.tuple #[.agg #[.int .i64 0, .slice none 0 0], .int .i64 x]) ∧ x ≠ 0 ∧ CurAt w' c K bs p
  | .ok (k, b, n) => (∃ u, e = .returned (.tuple #[.agg #[.int .i64 k, u], .int .i64 0]) ∧ w'.ownsRow w.heap.size 5 1 u b.length (Lib.byteCells b)) ∧ CurAt w' c K bs (p + n)
set_option maxRecDepth 20000 in
theorem textFail_any {w : World} {c b2 b6 : Nat} {K : Nat → Prop} {bs : List UInt8} {p q : Nat} (x : Int) (h : CurAt w c K bs q) (hpq : p ≤ q) (B2 : Blk w b2 38 #[pt c]) (B6 : Blk w b6 3 #[.int .i64 p]) :
    Calls Tryz.prog 198 #[.int .i64 x, pt b2, pt b6] w fun e w' => e = .returned (.tuple #[.agg #[.int .i64 0, .slice none 0 0], .int .i64 x]) ∧ CurAt w' c K bs p ∧ Fr (fun k => k = c) w w' := by
  have hlc := h.lt
  obtain ⟨z, hz⟩ : ∃ z, z = w.heap.size := ⟨_, rfl⟩
  have F0 : Fr (fun _ => False) w (w.alloc (.cells #[.int .i64 0, .slice none 0 0] 172)) := (Fr.refl w).alloc _
  have BZ := Blk.new w 172 #[.int .i64 0, .slice none 0 0]
  rw [← hz] at BZ
  have H := Lib.hid (h.step (K' := fun k => K k ∨ w.heap.size ≤ k) F0 (fun _ _ h => h.elim) (fun _ h => h))
  have e2 := (B2.fr F0 (fun h => h)).cell 0
  have e6 := (B6.fr F0 (fun h => h)).cell 0
  simp at e2 e6
  have HZ := Lib.hid hz
  have HF := Lib.hid F0
  have hzc : z ≠ c := by omega
  clear h hz F0 B2 B6
  go_enter Tryz.func198, Tryz.ntmps198
  go_upto_region 1 with fail
  rw [← HZ.out]
  generalize (w.alloc (.cells #[.int .i64 0, .slice none 0 0] 172)) = w1 at *
  go_wp2_with fail
  refine (back_any H.out p hpq).mono ?_
  rintro e w2 ⟨rfl, C2, F2⟩
  have BZ2 := BZ.fr F2 hzc
  have z0 := BZ2.cell 0
  have z1 := BZ2.cell 1
  have f0 := BZ2.frozen 0
  have f1 := BZ2.frozen 1
  simp at z0 z1
  obtain ⟨BZ3, F3⟩ := set2 BZ2 (.int .i64 0) (.slice none 0 0)
  have hlc2 := C2.lt
  have HC3 := Lib.hid (C2.step (K' := K) F3 (fun k hk e => .inr (by have := HZ.out; omega)) (fun _ h => .inl (.inl h)))
  have HF3 := Lib.hid (((HF.out.mono (T := fun k => k = c) (fun _ _ h => h.elim)).trans F2).trans' F3 (fun i hi e => by have := HZ.out; omega))
  have n0 := BZ3.cell 0
  have n1 := BZ3.cell 1
  simp at n0 n1
  clear C2 F2 F3 BZ3 BZ2 BZ HF H
  go_wp2_with fail
  exact bodyPost_ret (v := .tuple #[.agg #[.int .i64 0, .slice none 0 0], .int .i64 x]) (by simp [results, Tryz.results198, go_sem, n0, n1]) rfl ⟨rfl, HC3.out, HF3.out⟩
set_option maxRecDepth 20000 in
set_option maxHeartbeats 2000000 in
theorem textRead_any {w : World} {c : Nat} {K : Nat → Prop} {bs : List UInt8} {p : Nat} (h : CurAt w c K bs p) (hT : Tabs w) (hK : ¬ (4 = c ∨ 5 = c)) :
    Calls Tryz.prog 157 #[pt c, .slice none 0 0] w fun e w' => TextOut w w' c K bs p e ∧ Fr (fun k => k = c) w w' := by
  have hlc := h.lt
  have hle := h.le
  have hsm := h.small
  obtain ⟨z, hz⟩ : ∃ z, z = w.heap.size := ⟨_, rfl⟩
  have F0 : Fr (fun _ => False) w (((w.alloc (.cells #[pt c] 38)).alloc (.cells #[.int .i64 0, .slice none 0 0] 172)).alloc (.cells #[.int .i64 12, .int .i64 19, .int .i64 20, .int .i64 22, .int .i64 26, .int .i64 30] 3)) := (((Fr.refl w).alloc _).alloc _).alloc _
  have BP := ((Blk.new w 38 #[pt c]).alloc (.cells #[.int .i64 0, .slice none 0 0] 172)).alloc (.cells #[.int .i64 12, .int .i64 19, .int .i64 20, .int .i64 22, .int .i64 26, .int .i64 30] 3)
  have BZ := (Blk.new (w.alloc (.cells #[pt c] 38)) 172 #[.int .i64 0, .slice none 0 0]).alloc (.cells #[.int .i64 12, .int .i64 19, .int .i64 20, .int .i64 22, .int .i64 26, .int .i64 30] 3)
  have BY := Blk.new ((w.alloc (.cells #[pt c] 38)).alloc (.cells #[.int .i64 0, .slice none 0 0] 172)) 3 #[.int .i64 12, .int .i64 19, .int .i64 20, .int .i64 22, .int .i64 26, .int .i64 30]
  have H := Lib.hid (h.step (K' := fun k => K k ∨ w.heap.size ≤ k) F0 (fun _ _ h => h.elim) (fun _ h => h))
  rw [World.size_alloc, World.size_alloc] at BY
  rw [World.size_alloc] at BZ
  rw [← hz] at BP BZ BY
  have HZ := Lib.hid hz
  have HF := Lib.hid (F0.mono (T := fun k => k = c) (fun _ _ h => h.elim))
  have HT := Lib.hid (hT.old F0)
  have hzc : c < z := by omega
  clear h hz F0 hT
  go_enter Tryz.func157, Tryz.ntmps157
  go_upto_region 3 with (first | (go_at_call 197; go_in))
  rw [← HZ.out]
  generalize (((w.alloc (.cells #[pt c] 38)).alloc (.cells #[.int .i64 0, .slice none 0 0] 172)).alloc (.cells #[.int .i64 12, .int .i64 19, .int .i64 20, .int .i64 22, .int .i64 26, .int .i64 30] 3)) = w0 at *
  have p0 := BP.cell 0
  simp at p0
  have hy := BY.lt
  go_wp2_with fail
  refine (at_any H.out).mono ?_
  rintro e w' ⟨rfl, rfl⟩
  go_upto_region 4 with fail
  obtain ⟨t, ht⟩ : ∃ t, t = w0.heap.size := ⟨_, rfl⟩
  have BT := Blk.new w0 3 #[.int .i64 p]
  have F1 : Fr (fun _ => False) w0 (w0.alloc (.cells #[.int .i64 p] 3)) := (Fr.refl w0).alloc _
  have BP1 := BP.fr F1 (fun h => h)
  have BZ1 := BZ.fr F1 (fun h => h)
  have BY1 := BY.fr F1 (fun h => h)
  have HT1 := Lib.hid (HT.out.old F1)
  have H1 := Lib.hid (H.out.old F1)
  have HF1 := Lib.hid (HF.out.trans (F1.mono (fun _ _ h => h.elim)))
  rw [← ht] at BT ⊢
  have hzt : z + 3 ≤ t := by omega
  clear p0 BP BZ BY HT H HF F1 ht
  generalize (w0.alloc (.cells #[.int .i64 p] 3)) = w1 at *
  have p0 := BP1.cell 0
  simp at p0
  go_wp2_with fail
  refine (headRead_any H1.out).mono ?_
  rintro e w2 ⟨⟨tg, n, x, rfl, hout⟩, C2, F2⟩
  obtain ⟨tc, tn, tm⟩ := tg
  rw [show tagV ⟨tc, tn, tm⟩ = .agg #[.int .i64 tc, .int .i64 tn, .bool tm] from rfl]
  have ht1 := BT.lt
  have h1c := H1.out.lt
  have BP2 := BP1.fr F2 (by omega)
  have BZ2 := BZ1.fr F2 (by omega)
  have BY2 := BY1.fr F2 (by omega)
  have BT2 := BT.fr F2 (by omega)
  go_upto_region 5 with fail
  obtain ⟨g, hg⟩ : ∃ g, g = w2.heap.size := ⟨_, rfl⟩
  have hgt : t < g := by have := BT2.lt; omega
  have BG := Blk.new w2 97 #[.int .i64 tc, .int .i64 tn, .bool tm]
  have F3 : Fr (fun _ => False) w2 (w2.alloc (.cells #[.int .i64 tc, .int .i64 tn, .bool tm] 97)) := (Fr.refl w2).alloc _
  replace BP2 := BP2.fr F3 (fun h => h)
  replace BZ2 := BZ2.fr F3 (fun h => h)
  replace BY2 := BY2.fr F3 (fun h => h)
  replace BT2 := BT2.fr F3 (fun h => h)
  have HC3 := Lib.hid (C2.old F3)
  have HF3 := Lib.hid ((HF1.out.trans F2).trans (F3.mono (fun _ _ h => h.elim)))
  have HT3 := Lib.hid ((HT1.out.fr F2 (fun e => hK (.inl e)) (fun e => hK (.inr e))).old F3)
  have HO := Lib.hid hout
  rw [← hg] at BG ⊢
  clear p0 BP1 BZ1 BY1 BT HT1 H1 HF1 F2 F3 C2 hg hout ht1 h1c
  generalize (w2.alloc (.cells #[.int .i64 tc, .int .i64 tn, .bool tm] 97)) = w3 at *
  have z0 := BZ2.cell 0
  have z1 := BZ2.cell 1
  have f0 := BZ2.frozen 0
  have f1 := BZ2.frozen 1
  have q0 := BP2.cell 0
  have q1 := BT2.cell 0
  simp at z0 z1 q0 q1
  by_cases hx : x = 0
  · subst hx
    obtain ⟨k, hr⟩ : ∃ k, readS (bs.drop p) = .ok (⟨tc, tn, tm⟩, n, k) := by
      have ho := HO.out
      cases hr : readS (bs.drop p) with
      | error e => rw [hr] at ho; exact absurd ho.symm (readS_err hr)
      | ok vk => obtain ⟨v, m, k⟩ := vk; rw [hr] at ho; exact ⟨k, by rw [ho.1, ho.2.1]⟩
    have hc3 := HC3.out
    rw [hr] at hc3
    have HC4 := Lib.hid (show CurAt w3 c (fun k => K k ∨ w.heap.size ≤ k) bs (p + k) from hc3)
    have hpk : p + k ≤ bs.length := HC4.out.le
    have hts : textReadS (bs.drop p) = if tc ≠ 0 ∨ tm = true ∨ Go.Q.kindOk tn = false then .error 4 else if (bs.drop p).length - k < n then .error 3 else if rightS tn (((bs.drop p).drop k).take n) = true then .ok (tn, ((bs.drop p).drop k).take n, k + n) else .error 6 := by unfold textReadS; rw [hr]
    rw [List.length_drop, List.drop_drop] at hts
    have HTS := Lib.hid hts
    have HTC := Lib.hid (show ∀ W, Fr (fun k => k = c) w W → Blk W (z + 1) 172 #[.int .i64 0, .slice none 0 0] → ∀ er : Int, textReadS (bs.drop p) = .error er → er ≠ 0 → CurAt W c (fun k => K k ∨ w.heap.size ≤ k) bs p → ∃ W', W' = (W.setCell ⟨z + 1, 0, none⟩ (.int .i64 0)).setCell ⟨z + 1, 1, none⟩ (.slice none 0 0) ∧ Blk W' (z + 1) 172 #[.int .i64 0, .slice none 0 0] ∧ TextOut w W' c K bs p (.returned (.tuple #[.agg #[.int .i64 0, .slice none 0 0], .int .i64 er])) ∧ Fr (fun k => k = c) w W' from fun W FW BW er hs her hcw => by
      obtain ⟨BZ3, F4⟩ := set2 BW (.int .i64 0) (.slice none 0 0)
      refine ⟨_, rfl, BZ3, ?_, FW.trans' F4 (fun i hi e => by have := HZ.out; omega)⟩
      unfold TextOut
      rw [hs]
      exact ⟨rfl, her, hcw.step F4 (fun k hk e => .inr (by have := HZ.out; omega)) (fun _ h => .inl (.inl h))⟩)
    clear hr hc3 hts HC3 HO
    have HFAIL := Lib.hid (textFail_any (p := p) 4 HC4.out (by omega) BP2 BT2)
    have hcn := Go.Proofs.Tryz.slices_Contains_int (z + 1 + 1) 0 6 6 [12, 19, 20, 22, 26, 30] tn w3 (by simp) (by omega) (fun j hj => by
      rw [Nat.zero_add, BY2.cell]
      match j, hj with
      | 0, _ => rfl
      | 1, _ => rfl
      | 2, _ => rfl
      | 3, _ => rfl
      | 4, _ => rfl
      | 5, _ => rfl
      | j + 6, hj => simp at hj; omega)
    rw [show ([12, 19, 20, 22, 26, 30] : List Int).take 6 = [12, 19, 20, 22, 26, 30] from rfl, kind_contains] at hcn
    have HCN := Lib.hid (show Calls Tryz.prog 199 #[.slice (some ⟨z + 1 + 1, 0, none⟩) 6 6, .int .i64 tn] w3 fun e w' => e = .returned (.bool (Go.Q.kindOk tn)) ∧ w3 = w' from hcn.mono (fun _ _ h => ⟨h.1, h.2.symm⟩))
    clear hcn
    have g0 := BG.cell 0
    have g1 := BG.cell 1
    have g2 := BG.cell 2
    simp at g0 g1 g2
    by_cases hb : tc ≠ 0 ∨ tm = true ∨ Go.Q.kindOk tn = false
    · have hs : textReadS (bs.drop p) = .error 4 := by rw [HTS.out, if_pos hb]
      have HS := Lib.hid hs
      clear hs
      have hcase : ((tc == 0) = false ∧ (tc != 0) = true) ∨ (tc = 0 ∧ tm = true) ∨ (tc = 0 ∧ tm = false ∧ Go.Q.kindOk tn = false) := by
        by_cases h0 : tc = 0
        · cases tm with
          | true => exact .inr (.inl ⟨h0, rfl⟩)
          | false => rcases hb with h | h | h
                     · exact absurd h0 h
                     · cases h
                     · exact .inr (.inr ⟨h0, rfl, h⟩)
        · exact .inl ⟨beq_eq_false_iff_ne.2 h0, by simpa using h0⟩
      clear hb
      rcases hcase with ⟨h, h'⟩ | ⟨rfl, rfl⟩ | ⟨rfl, rfl, hkn⟩
      all_goals
        go_wp2_with (first | (go_at_call 199; refine HCN.out.mono ?_; rintro e w' ⟨rfl, rfl⟩))
        refine HFAIL.out.mono ?_
        rintro e w5 ⟨rfl, C5, F5⟩
        have BZ5 := BZ2.fr F5 (by omega)
        obtain ⟨W', hW', BW', hout, FW'⟩ := HTC.out w5 (HF3.out.trans F5) BZ5 4 HS.out (by decide) C5
        have HOUT := Lib.hid hout
        have HFW := Lib.hid FW'
        have HWW := Lib.hid hW'
        have z0' := BZ5.cell 0
        have z1' := BZ5.cell 1
        have f0' := BZ5.frozen 0
        have f1' := BZ5.frozen 1
        simp at z0' z1'
        have n0 := BW'.cell 0
        have n1 := BW'.cell 1
        simp at n0 n1
        clear C5 F5 BZ5 hW' BW' hout FW'
        go_wp2_with fail
        rw [← HWW.out]
        refine bodyPost_ret (v := .tuple #[.agg #[.int .i64 0, .slice none 0 0], .int .i64 4]) (by simp [results, Tryz.results157, go_sem, n0, n1]) rfl ⟨HOUT.out, HFW.out⟩
    · have hb0 : tc = 0 ∧ tm = false ∧ Go.Q.kindOk tn = true := by
        refine ⟨Classical.byContradiction fun h => hb (.inl h), ?_, ?_⟩
        · cases tm with
          | true => exact absurd (.inr (.inl rfl)) hb
          | false => rfl
        · cases h : Go.Q.kindOk tn with
          | true => rfl
          | false => exact absurd (.inr (.inr h)) hb
      have hs1 := HTS.out
      rw [if_neg hb] at hs1
      obtain ⟨rfl, rfl, hkn⟩ := hb0
      clear hb
      by_cases hn : bs.length - (p + k) < n
      · rw [if_pos (by omega)] at hs1
        have HS := Lib.hid hs1
        have HTK := Lib.hid (take_end HC4.out n hn)
        clear hs1
        go_wp2_with (first | (go_at_call 199; refine HCN.out.mono ?_; rintro e w' ⟨rfl, rfl⟩))
        refine HTK.out.mono ?_
        rintro e w4 ⟨rfl, F4⟩
        have BP4 := BP2.fr F4 (fun h => h)
        have BT4 := BT2.fr F4 (fun h => h)
        have BZ4 := BZ2.fr F4 (fun h => h)
        have HFAIL3 := Lib.hid (textFail_any (p := p) 3 (HC4.out.old F4) (by omega) BP4 BT4)
        have HF4 := Lib.hid (HF3.out.trans (F4.mono (fun _ _ h => h.elim)))
        clear F4 BP4 BT4 BP2 BT2 BY2 HCN g0 g1 g2 z0 z1 f0 f1 q0 q1 BZ2
        go_wp2_with fail
        refine HFAIL3.out.mono ?_
        rintro e w5 ⟨rfl, C5, F5⟩
        have BZ5 := BZ4.fr F5 (by omega)
        obtain ⟨W', hW', BW', hout, FW'⟩ := HTC.out w5 (HF4.out.trans F5) BZ5 3 HS.out (by decide) C5
        have HOUT := Lib.hid hout
        have HFW := Lib.hid FW'
        have HWW := Lib.hid hW'
        have z0' := BZ5.cell 0
        have z1' := BZ5.cell 1
        have f0' := BZ5.frozen 0
        have f1' := BZ5.frozen 1
        simp at z0' z1'
        have n0 := BW'.cell 0
        have n1 := BW'.cell 1
        simp at n0 n1
        clear C5 F5 BZ5 hW' BW' hout FW'
        go_wp2_with fail
        rw [← HWW.out]
        refine bodyPost_ret (v := .tuple #[.agg #[.int .i64 0, .slice none 0 0], .int .i64 3]) (by simp [results, Tryz.results157, go_sem, n0, n1]) rfl ⟨HOUT.out, HFW.out⟩
      · rw [if_neg (by omega)] at hs1
        obtain ⟨b, hbb⟩ : ∃ b, b = (bs.drop (p + k)).take n := ⟨_, rfl⟩
        have hbl : b.length = n := by rw [hbb, List.length_take, List.length_drop]; omega
        rw [← hbb] at hs1
        have HS := Lib.hid hs1
        have HTK := take_ok HC4.out n (by omega)
        rw [← hbb] at HTK
        have HTK := Lib.hid HTK
        have hl3 := BG.lt
        clear hs1 hbb
        go_wp2_with (first | (go_at_call 199; refine HCN.out.mono ?_; rintro e w' ⟨rfl, rfl⟩))
        refine HTK.out.mono ?_
        rintro e w4 ⟨v4, rfl, ho4, C4, F4⟩
        have BP4 := BP2.fr F4 (by omega)
        have BT4 := BT2.fr F4 (by omega)
        have BZ4 := BZ2.fr F4 (by omega)
        have BG4 := BG.fr F4 (by omega)
        have HT4 := Lib.hid (HT3.out.fr F4 (fun e => hK (.inl e)) (fun e => hK (.inr e)))
        obtain ⟨a4, m4, c4, rfl, rfl⟩ := own_shape ho4
        have HF4 := Lib.hid (HF3.out.trans F4)
        have HO4 := Lib.hid ho4
        have HC5 := Lib.hid C4
        have hv4 := (Vals.of_own ho4).1
        clear HT3 HC4 F4 BP2 BT2 BY2 HCN g0 g1 g2 z0 z1 f0 f1 q0 q1 BZ2 BG C4 ho4 HTK
        have g1 := BG4.cell 1
        simp at g1
        go_upto_region 14 with fail
        obtain ⟨y, hy⟩ : ∃ y, y = w4.heap.size := ⟨_, rfl⟩
        have BX := Blk.new w4 172 #[.int .i64 tn, .slice a4 m4 c4]
        have F5 : Fr (fun _ => False) w4 (w4.alloc (.cells #[.int .i64 tn, .slice a4 m4 c4] 172)) := (Fr.refl w4).alloc _
        have hv5 := hv4.old F5
        have HR := Lib.hid (rightText_any tn _ b _ hv5 (HT4.out.old F5))
        have BP5 := BP4.fr F5 (fun h => h)
        have BT5 := BT4.fr F5 (fun h => h)
        have BZ5 := BZ4.fr F5 (fun h => h)
        have HC5' := Lib.hid (HC5.out.old F5)
        have HO5 := Lib.hid (ownsRow_fr HO4.out F5 (fun _ _ h => h))
        have HF5 := Lib.hid (HF4.out.trans (F5.mono (fun _ _ h => h.elim)))
        rw [← hy] at BX ⊢
        clear HC5 HO4 HF4 F5 BP4 BT4 BZ4 BG4 hv4 hv5 g1 hy HT4
        generalize (w4.alloc (.cells #[.int .i64 tn, .slice a4 m4 c4] 172)) = w5 at *
        have x0 := BX.cell 0
        have x1 := BX.cell 1
        simp at x0 x1
        cases hrt : rightS tn b with
        | false =>
          have hs1 := HS.out
          rw [hrt] at hs1
          simp only [Bool.false_eq_true, ↓reduceIte] at hs1
          rw [hrt] at HR
          have HS6 := Lib.hid hs1
          clear hs1 HS hrt
          go_wp2_with (first | (go_at_call 195; refine HR.out.mono ?_; rintro e w6 ⟨rfl, F6⟩))
          have HFAIL6 := Lib.hid (textFail_any (p := p) 6 (HC5'.out.old F6) (by omega) (BP5.fr F6 (fun h => h)) (BT5.fr F6 (fun h => h)))
          refine HFAIL6.out.mono ?_
          rintro e w7 ⟨rfl, C7, F7⟩
          have BZ7 := (BZ5.fr F6 (fun h => h)).fr F7 (by omega)
          obtain ⟨W', hW', BW', hout, FW'⟩ := HTC.out w7 ((HF5.out.trans (F6.mono (fun _ _ h => h.elim))).trans F7) BZ7 6 HS6.out (by decide) C7
          have HOUT := Lib.hid hout
          have HFW := Lib.hid FW'
          have HWW := Lib.hid hW'
          have z0' := BZ7.cell 0
          have z1' := BZ7.cell 1
          have f0' := BZ7.frozen 0
          have f1' := BZ7.frozen 1
          simp at z0' z1'
          have n0 := BW'.cell 0
          have n1 := BW'.cell 1
          simp at n0 n1
          clear C7 F7 BZ7 hW' BW' hout FW'
          go_wp2_with fail
          rw [← HWW.out]
          refine bodyPost_ret (v := .tuple #[.agg #[.int .i64 0, .slice none 0 0], .int .i64 6]) (by simp [results, Tryz.results157, go_sem, n0, n1]) rfl ⟨HOUT.out, HFW.out⟩
        | true =>
          have hs1 := HS.out
          rw [hrt] at hs1
          simp only [↓reduceIte] at hs1
          rw [hrt] at HR
          have HS6 := Lib.hid hs1
          clear hs1 HS hrt
          go_wp2_with (first | (go_at_call 195; refine HR.out.mono ?_; rintro e w6 ⟨rfl, F6⟩; have BX6 := BX.fr F6 (fun h => h); have BZ6 := BZ5.fr F6 (fun h => h); have x0' := BX6.cell 0; have x1' := BX6.cell 1; have z0' := BZ6.cell 0; have z1' := BZ6.cell 1; have f0' := BZ6.frozen 0; have f1' := BZ6.frozen 1; simp only [List.getElem?_toArray, List.getElem?_cons_succ, List.getElem?_cons_zero] at x0' x1' z0' z1'))
          obtain ⟨BZ7, F7⟩ := set2 (BZ5.fr F6 (fun h => h)) (.int .i64 tn) (.slice a4 m4 c4)
          have n0 := BZ7.cell 0
          have n1 := BZ7.cell 1
          simp at n0 n1
          have hob : ∀ q, (Value.slice a4 m4 c4).ownBlock = some q → w3.heap.size ≤ q := fun q hq => ((Vals.of_own HO5.out).2 q hq).1
          have HO7 := Lib.hid (own_le (ownsRow_fr (ownsRow_fr HO5.out F6 (fun _ _ h => h)) F7 (fun q hq e => by have := hob q hq; omega)) (base' := w.heap.size) (by have := HZ.out; omega))
          have HC7 := Lib.hid ((HC5'.out.old F6).step (K' := K) F7 (fun q hq e => .inr (by have := HZ.out; omega)) (fun _ h => .inl (.inl h)))
          have HF7 := Lib.hid ((HF5.out.trans (F6.mono (fun _ _ h => h.elim))).trans' F7 (fun i hi e => by have := HZ.out; omega))
          refine bodyPost_ret (v := .tuple #[.agg #[.int .i64 tn, .slice a4 m4 c4], .int .i64 0]) (by simp [results, Tryz.results157, go_sem, n0, n1]) rfl ⟨?_, HF7.out⟩
          unfold TextOut
          rw [HS6.out]
          have hc7 := HC7.out
          rw [Nat.add_assoc] at hc7
          simp only
          exact ⟨⟨_, rfl, by rw [hbl]; exact HO7.out⟩, hc7⟩
  · have hx1 : (x == 0) = false := beq_eq_false_iff_ne.2 hx
    have hr : readS (bs.drop p) = .error x := by
      have ho := HO.out
      cases hr : readS (bs.drop p) with
      | error e => rw [hr] at ho; rw [show x = e from ho]
      | ok vk => obtain ⟨v, m, k⟩ := vk; rw [hr] at ho; exact absurd ho.2.2 hx
    have hs : textReadS (bs.drop p) = .error x := by unfold textReadS; rw [hr]
    have hc3 := HC3.out
    rw [hr] at hc3
    obtain ⟨BZ3, F4⟩ := set2 BZ2 (.int .i64 0) (.slice none 0 0)
    have HC4 := Lib.hid (CurAt.step (K' := K) hc3 F4 (fun k hk e => .inr (by have := HZ.out; omega)) (fun _ h => .inl (.inl h)))
    have HF4 := Lib.hid (HF3.out.trans' F4 (fun i hi e => by have := HZ.out; omega))
    have HS := Lib.hid hs
    have n0 := BZ3.cell 0
    have n1 := BZ3.cell 1
    simp at n0 n1
    have hxn := Lib.hid hx
    clear hr hs hc3 F4 BZ3 BZ2 BP2 BY2 BT2 BG HC3 HF3 hx
    go_wp2_with fail
    refine bodyPost_ret (v := .tuple #[.agg #[.int .i64 0, .slice none 0 0], .int .i64 x]) (by simp [results, Tryz.results157, go_sem, n0, n1]) rfl ⟨?_, HF4.out⟩
    unfold TextOut
    rw [HS.out]
    exact ⟨rfl, hxn.out, HC4.out⟩
end Go.Proofs.YtacekpdjapgfcaaGreatDoor

namespace Go.Q
open Go Go.RowKit
theorem Vals.part {w : World} {a : Option Addr} {m cap : Nat} {l : List UInt8} (h : Bytes w (.slice a m cap) l) (i n : Nat) (hij : i + n ≤ l.length) (a' : Option Addr) (cap' : Nat) (ha : 0 < n → ∀ b o, a = some ⟨b, o, none⟩ → a' = some ⟨b, o + i, none⟩) (hc : n ≤ cap') (hm : cap' ≤ maxLen) : Bytes w (.slice a' n cap') ((l.drop i).take n) := by
  obtain ⟨a0, c0, he, -⟩ := Vals.form h
  simp only [Value.slice.injEq] at he
  obtain ⟨rfl, rfl, rfl⟩ := he
  have := Vals.sub h i (i + n) (by omega) hij a' cap' (fun h0 => ha (by omega)) (by omega) hm
  rw [show i + n - i = n from by omega] at this
  unfold Bytes Lib.byteCells
  rw [List.map_take, List.map_drop]
  exact this
end Go.Q
namespace Go.Proofs.YtacekpdjapgfcaaGreatDoor
open Go Go.RowKit Go.Q
set_option linter.unusedSimpArgs false
def RTextOut (wb : World) (l : List UInt8) (p : Nat) (e : Ending) : Prop :=
  match textReadS (l.drop p) with
  | .error x => e = .returned (.tuple #[.agg #[.int .i64 0, .slice none 0 0], .int .i64 p, .int .i64 x])
  | .ok (k, b, n) => ∃ u, e = .returned (.tuple #[.agg #[.int .i64 k, u], .int .i64 ((p + n : Nat) : Int), .int .i64 0]) ∧ Bytes wb u b
end Go.Proofs.YtacekpdjapgfcaaGreatDoor

namespace Go.Q
open Go
theorem one_err {l : List UInt8} {e : Int} (h : readS l = .error e) : oneS l = .error e := by unfold oneS; rw [h]
theorem one_end {l : List UInt8} {t : Tag} {n k : Nat} (h : readS l = .ok (t, n, k)) (hn : l.length - k < n) : oneS l = .error 3 := by unfold oneS; rw [h]; exact if_pos hn
theorem one_ok {l : List UInt8} {t : Tag} {n k : Nat} (h : readS l = .ok (t, n, k)) (hn : ¬ l.length - k < n) : oneS l = .ok (t, k, k + n) := by unfold oneS; rw [h]; exact if_neg hn
end Go.Q
namespace Go.Proofs.YtacekpdjapgfcaaGreatDoor
open Go Go.RowKit Go.Q
set_option linter.unusedSimpArgs false
set_option maxRecDepth 20000 in
set_option maxHeartbeats 2000000 in
theorem r08Wholes_any (v : Value) (l : List UInt8) (w : World) (h : Bytes w v l) (hl : l.length ≤ 16777216) :
    Calls Tryz.prog 86 #[v, .int .i64 0] w fun e w' => wholesOut (allS l) e ∧ Fr (fun _ => False) w w' := by
  obtain ⟨a, cap, rfl, hcap, hcm, -⟩ := h.form
  have H := Lib.hid h
  have hcm2 : cap ≤ 9223372036854775807 := by unfold maxLen at hcm; omega
  clear h
  go_enter Tryz.func86, Tryz.ntmps86
  go_wp2_with fail
  go_loopg [1, 6] l.length (fun g pp ls wr => ∃ (q : Nat) (a2 : Option Addr) (m c2 : Nat) (xs : List Value), g = l.length - q ∧ q ≤ l.length ∧ m ≤ q ∧ pp = .int .i64 q ∧ ls = .slice a2 m c2 ∧ wr.ownsRow w.heap.size 23 1 (.slice a2 m c2) m xs ∧ Fr (fun _ => False) w wr ∧ (∀ e, allS (l.drop q) = .error e → allS l = .error e) ∧ (∀ ls, allS (l.drop q) = .ok ls → ∃ ls', allS l = .ok ls' ∧ ls'.length = m + ls.length))
  case atStart => exact ⟨0, none, 0, 0, [], rfl, Nat.zero_le _, Nat.le_refl _, rfl, rfl, ⟨rfl, .inl ⟨rfl, rfl⟩⟩, Fr.refl _, fun e h => h, fun ls h => ⟨ls, h, by omega⟩⟩
  case round =>
    obtain ⟨q, a2, m, c2, xs, hg, hq, hmq, rfl, rfl, ho, F, hE, hO⟩ := hrel
    have HG := Lib.hid hg
    have HE := Lib.hid hE
    have HO := Lib.hid hO
    have HOW := Lib.hid ho
    have HF := Lib.hid F
    have hv := Lib.hid (Vals.of_own ho).2
    clear hg hE hO ho F
    by_cases hql : q < l.length
    · have q1 : (q : Int) < (l.length : Int) := by omega
      have hne : l.drop q ≠ [] := fun e => by have := drop_nil e; omega
      have HNE := Lib.hid hne
      have HR := Lib.hid (r02Read_any _ l q wr (H.out.old HF.out) hq (by omega))
      clear hne
      go_wp2_with fail
      refine HR.out.mono ?_
      rintro e w2 ⟨rfl, F2⟩
      have HOW2 := Lib.hid (ownsRow_fr HOW.out F2 (fun _ _ h => h))
      have HF2 := Lib.hid (HF.out.trans F2)
      clear HR HOW HF F2
      cases hr : readS (l.drop q) with
      | error x =>
        have hx : x ≠ 0 := readS_err hr
        have hx1 : (x == 0) = false := beq_eq_false_iff_ne.2 hx
        have hx2 : (x != 0) = true := by simpa using hx
        have hA := Lib.hid (HE.out x (allS_err HNE.out (one_err hr)))
        rw [show rReadV q (.error x) = .tuple #[.agg #[.int .i64 0, .int .i64 0, .bool false], .int .i64 0, .int .i64 q, .int .i64 x] from rfl]
        clear hr hx
        go_wp2_with fail
        refine bodyPost_ret (v := .tuple #[.slice none 0 0, .int .i64 x]) (by simp [results, Tryz.results86, go_sem]) rfl ⟨?_, HF2.out.alloc _⟩
        rw [hA.out]
        rfl
      | ok tnk =>
        obtain ⟨⟨t1, t2, t3⟩, n, k⟩ := tnk
        rw [show rReadV q (.ok (⟨t1, t2, t3⟩, n, k)) = .tuple #[.agg #[.int .i64 t1, .int .i64 t2, .bool t3], .int .i64 n, .int .i64 ((q + k : Nat) : Int), .int .i64 0] from rfl]
        have hk := (readS_le hr).1
        have hn16 := (readS_le hr).2
        have hkp := readS_pos hr
        rw [List.length_drop] at hk
        by_cases h3 : (l.drop q).length - k < n
        · have hA := Lib.hid (HE.out 3 (allS_err HNE.out (one_end hr h3)))
          rw [List.length_drop] at h3
          obtain ⟨s, hs⟩ : ∃ s, s = q + k := ⟨_, rfl⟩
          rw [← hs]
          have q3 : (l.length : Int) - (s : Int) < (n : Int) := by omega
          have hsl : s ≤ l.length := by omega
          clear hr hs
          go_wp2_with fail
          refine bodyPost_ret (v := .tuple #[.slice none 0 0, .int .i64 3]) (by simp [results, Tryz.results86, go_sem]) rfl ⟨?_, HF2.out.alloc _⟩
          rw [hA.out]
          rfl
        · have hA := Lib.hid (allS_ok HNE.out (one_ok hr h3))
          rw [List.length_drop] at h3
          obtain ⟨s, hs⟩ : ∃ s, s = q + k := ⟨_, rfl⟩
          rw [← hs]
          obtain ⟨r, hrr⟩ : ∃ r, r = s + n := ⟨_, rfl⟩
          have q3 : ¬ (l.length : Int) - (s : Int) < (n : Int) := by omega
          have hsl : s ≤ l.length := by omega
          have hsi : (s : Int) + (n : Int) = (r : Int) := by omega
          have hwi : IntKind.i64.wrap (r : Int) = (r : Int) := by simp [IntKind.wrap, IntKind.signed, IntKind.bits]; omega
          have r0 : (0 : Int) ≤ (q : Int) := by omega
          have r1 : (0 : Int) ≤ (r : Int) := by omega
          have r2 : (q : Int) ≤ (r : Int) := by omega
          have r2N : q ≤ r := by omega
          have r3 : (r : Int) ≤ (cap : Int) := by omega
          have r3N : r ≤ cap := by omega
          have hql2 : q ≤ cap := by omega
          have hrl : r ≤ l.length := by omega
          have hrk : r = q + (k + n) := by omega
          have hqr : q < r := by omega
          have HRK := Lib.hid hrk
          obtain ⟨A, hA2⟩ : ∃ A, A = Option.map (fun x => x.add q) a := ⟨_, rfl⟩
          obtain ⟨cp, hcp⟩ : ∃ cp, cp = cap - q := ⟨_, rfl⟩
          obtain ⟨rm, hrm⟩ : ∃ rm, rm = r - q := ⟨_, rfl⟩
          obtain ⟨gg, hgg⟩ : ∃ gg, gg = w2.heap.size + 1 := ⟨_, rfl⟩
          have BU := Blk.new (w2.alloc (.cells #[.int .i64 t1, .int .i64 t2, .bool t3] 86)) 23 #[.slice A rm cp]
          rw [World.size_alloc, ← hgg] at BU
          have F3 : Fr (fun _ => False) w2 ((w2.alloc (.cells #[.int .i64 t1, .int .i64 t2, .bool t3] 86)).alloc (.cells #[.slice A rm cp] 23)) := ((Fr.refl w2).alloc _).alloc _
          obtain ⟨v', w', hrun, ho7, F7, -⟩ := append_one (ownsRow_fr HOW2.out F3 (fun _ _ h => h)) gg _ BU rfl (by omega) ((HF2.out.trans F3).size)
          obtain ⟨a7, n7, c7, rfl, hn7⟩ := own_shape ho7
          subst hn7
          have HF7 := Lib.hid ((HF2.out.trans F3).trans' F7 (fun i hi e => absurd hi (by have := (hv.out i e).1; omega)))
          have HO7 := Lib.hid ho7
          have HRUN := Lib.hid hrun
          replace hA2 := hA2.symm
          replace hcp := hcp.symm
          replace hrm := hrm.symm
          have HGG := Lib.hid hgg
          clear hr hs hrr hrk hgg BU F3 hrun F7 ho7
          go_wp2_with (at_builtin; refine wpList_append_run (by rfl) (.tmp 32) (.tmp 39) 136 (by rfl) _ w' (by have h := HRUN.out; rw [HGG.out] at h; exact h) ?_)
          go_roundg (l.length - r)
          case measure => rw [HG.out]; omega
          refine ⟨r, a7, m + 1, c7, xs ++ [.slice A rm cp], rfl, hrl, by omega, rfl, rfl, HO7.out, HF7.out, fun e h => ?_, fun ls h => ?_⟩
          · rw [HRK.out, ← List.drop_drop] at h
            exact HE.out e (by rw [hA.out, h])
          · rw [HRK.out, ← List.drop_drop] at h
            obtain ⟨ls', h1, h2⟩ := HO.out _ (by rw [hA.out, h])
            exact ⟨ls', h1, by rw [h2]; simp only [List.length_cons]; omega⟩
    · have q1 : ¬ (q : Int) < (l.length : Int) := by omega
      have hd : l.drop q = [] := List.drop_eq_nil_of_le (by omega)
      obtain ⟨ls', h1, h2⟩ := HO.out [] (by rw [hd]; rfl)
      have H1 := Lib.hid h1
      have H2 := Lib.hid h2
      clear h1 h2 hd
      go_wp2_with fail
      refine bodyPost_ret (v := .tuple #[.slice a2 m c2, .int .i64 0]) (by simp [results, Tryz.results86, go_sem]) rfl ⟨?_, HF.out⟩
      rw [H1.out]
      exact ⟨a2, c2, by rw [H2.out]; simp⟩
end Go.Proofs.YtacekpdjapgfcaaGreatDoor

namespace Go.Proofs.YtacekpdjapgfcaaGreatDoor
open Go Go.RowKit Go.Q
set_option linter.unusedSimpArgs false
set_option maxRecDepth 20000 in
theorem r02Of_any (n : Int) (w : World) :
    Calls Tryz.prog 51 #[.int .i64 n] w fun e w' => e = .returned (tagV (tagOf n)) ∧ Fr (fun _ => False) w w' := by
  rcases Classical.em (n = 16) with h | h
  case' inl => subst h
  case' inr => have h16 : (n == 16) = false := beq_eq_false_iff_ne.2 h
  case' inl =>
    go_enter Tryz.func51, Tryz.ntmps51
    go_wp2_with fail
    exact bodyPost_ret (v := tagV ⟨0, 16, true⟩) (by simp [results, Tryz.results51, go_sem, tagV]) rfl ⟨rfl, (Fr.refl w).alloc _⟩
  case' inr =>
    go_enter Tryz.func51, Tryz.ntmps51
    go_wp2_with fail
    exact bodyPost_ret (v := tagV ⟨0, n, n == 17⟩) (by simp [results, Tryz.results51, go_sem, tagV]) rfl ⟨by simp [tagOf, tagV, h16], (Fr.refl w).alloc _⟩
set_option maxRecDepth 20000 in
theorem r02Length_any (n : Nat) (hn : n ≤ 16777216) (w : World) :
    Calls Tryz.prog 102 #[.int .i64 n] w fun e w' => ∃ v, e = .returned v ∧ w'.ownsRow w.heap.size 5 1 v (lenBytes n).length (Lib.byteCells (lenBytes n)) ∧ Fr (fun _ => False) w w' := by
  have key : ∀ cs : Array Value, cs = (Lib.byteCells (lenBytes n)).toArray → (lenBytes n).length ≤ 5 → (w.alloc (.cells cs 5)).ownsRow w.heap.size 5 1 (.slice (some ⟨w.heap.size, 0, none⟩) (lenBytes n).length (lenBytes n).length) (lenBytes n).length (Lib.byteCells (lenBytes n)) ∧ Fr (fun _ => False) w (w.alloc (.cells cs 5)) := by
    rintro cs rfl h5
    exact ⟨own_bytes (Blk.new w 5 _) (by omega) _ (Nat.le_refl _), (Fr.refl w).alloc _⟩
  by_cases h1 : n < 128
  · have q1 : (n : Int) < 128 := by omega
    have hL : lenBytes n = [UInt8.ofNat n] := by simp [lenBytes, h1]
    rw [hL] at key ⊢
    have HK := Lib.hid key
    clear key hL
    go_enter Tryz.func102, Tryz.ntmps102
    go_wp2_with fail
    go_ret
    refine ⟨_, rfl, HK.out _ ?_ (by simp)⟩
    simp [Lib.byteCells, IntKind.wrap, IntKind.signed, IntKind.bits]
    try omega
  have q1 : ¬ (n : Int) < 128 := by omega
  by_cases h2 : n < 256
  · have q2 : (n : Int) < 256 := by omega
    have hL : lenBytes n = [129, UInt8.ofNat n] := by simp [lenBytes, h1, h2]
    rw [hL] at key ⊢
    have HK := Lib.hid key
    clear key hL
    go_enter Tryz.func102, Tryz.ntmps102
    go_wp2_with fail
    go_ret
    refine ⟨_, rfl, HK.out _ ?_ (by simp)⟩
    simp [Lib.byteCells, IntKind.wrap, IntKind.signed, IntKind.bits]
    try omega
  have q2 : ¬ (n : Int) < 256 := by omega
  by_cases h3 : n < 65536
  · have q3 : (n : Int) < 65536 := by omega
    have hL : lenBytes n = [130, UInt8.ofNat (n / 256), UInt8.ofNat (n % 256)] := by simp only [lenBytes, h1, h2, h3, if_true, if_false]
    rw [hL] at key ⊢
    have HK := Lib.hid key
    clear key hL
    go_enter Tryz.func102, Tryz.ntmps102
    go_wp2_with fail
    go_ret
    refine ⟨_, rfl, HK.out _ ?_ (by simp)⟩
    simp [Lib.byteCells, IntKind.wrap, IntKind.signed, IntKind.bits]
    try omega
  have q3 : ¬ (n : Int) < 65536 := by omega
  by_cases h4 : n < 16777216
  · have q4 : (n : Int) < 16777216 := by omega
    have hL : lenBytes n = [131, UInt8.ofNat (n / 65536), UInt8.ofNat (n / 256 % 256), UInt8.ofNat (n % 256)] := by simp only [lenBytes, h1, h2, h3, h4, if_true, if_false]
    rw [hL] at key ⊢
    have HK := Lib.hid key
    clear key hL
    go_enter Tryz.func102, Tryz.ntmps102
    go_wp2_with fail
    go_ret
    refine ⟨_, rfl, HK.out _ ?_ (by simp)⟩
    simp [Lib.byteCells, IntKind.wrap, IntKind.signed, IntKind.bits]
    try omega
  have q4 : ¬ (n : Int) < 16777216 := by omega
  · have hL : lenBytes n = [132, UInt8.ofNat (n / 16777216), UInt8.ofNat (n / 65536 % 256), UInt8.ofNat (n / 256 % 256), UInt8.ofNat (n % 256)] := by simp only [lenBytes, h1, h2, h3, h4, if_false]
    rw [hL] at key ⊢
    have HK := Lib.hid key
    clear key hL
    go_enter Tryz.func102, Tryz.ntmps102
    go_wp2_with fail
    go_ret
    refine ⟨_, rfl, HK.out _ ?_ (by simp)⟩
    simp [Lib.byteCells, IntKind.wrap, IntKind.signed, IntKind.bits]
    try omega
set_option maxRecDepth 20000 in
theorem r02Bytes_any (t : Tag) (h : tagGood t) (w : World) :
    Calls Tryz.prog 101 #[tagV t] w fun e w' => ∃ v, e = .returned v ∧ w'.ownsRow w.heap.size 5 1 v 1 (Lib.byteCells [tagByte t]) ∧ Fr (fun _ => False) w w' := by
  have hv := tagByte_val h
  have key : ∀ (w' : World) (cs : Array Value), cs = (Lib.byteCells [tagByte t]).toArray → Fr (fun _ => False) w w' → (w'.alloc (.cells cs 5)).ownsRow w.heap.size 5 1 (.slice (some ⟨w'.heap.size, 0, none⟩) 1 1) 1 (Lib.byteCells [tagByte t]) ∧ Fr (fun _ => False) w (w'.alloc (.cells cs 5)) := by
    rintro w' cs rfl F
    exact ⟨own_bytes (l := [tagByte t]) (Blk.new w' 5 _) (by simp) _ F.size, F.alloc _⟩
  obtain ⟨⟨h1, h2⟩, h3, h4⟩ := h
  obtain ⟨c, n, m⟩ := t
  simp only at h1 h2 h3 h4
  have HV := Lib.hid hv
  have HK := Lib.hid key
  have B := Blk.new w 86 #[.int .i64 c, .int .i64 n, .bool m]
  have F0 : Fr (fun _ => False) w (w.alloc (.cells #[.int .i64 c, .int .i64 n, .bool m] 86)) := (Fr.refl w).alloc _
  have q1 : n < 31 := h4
  clear hv key
  rw [show tagV ⟨c, n, m⟩ = .agg #[.int .i64 c, .int .i64 n, .bool m] from rfl]
  cases m
  all_goals
    go_enter Tryz.func101, Tryz.ntmps101
    go_upto_region 1 with fail
    generalize hz : w.heap.size = z at B ⊢
    have HZ := Lib.hid hz
    generalize (w.alloc (.cells _ 86)) = w0 at *
    clear hz
    have S := B.cell
    go_wp2_with fail
    go_ret
    refine ⟨_, rfl, ?_⟩
    rw [← HZ.out]
    refine HK.out _ _ ?_ F0
    have := HV.out
    simp at this
    simp [Lib.byteCells, IntKind.wrap, IntKind.signed, IntKind.bits, this]
    try omega
set_option maxRecDepth 20000 in
theorem r02Wrap_any (t : Tag) (ht : tagGood t) (v : Value) (l : List UInt8) (w : World) (hv : Bytes w v l) (hl : l.length ≤ 16777216) :
    Calls Tryz.prog 50 #[tagV t, v] w fun e w' => ∃ v', e = .returned v' ∧ w'.ownsRow w.heap.size 5 1 v' (wrapS t l).length (Lib.byteCells (wrapS t l)) ∧ Fr (fun _ => False) w w' := by
  obtain ⟨a, cap, rfl, -⟩ := hv.form
  have HB := Lib.hid hv
  have HT := Lib.hid ht
  obtain ⟨N, hN⟩ : ∃ N, N = l.length := ⟨_, rfl⟩
  have HN := Lib.hid hN
  rw [← hN] at hl ⊢
  obtain ⟨c, n, m⟩ := t
  have B := Blk.new w 86 #[.int .i64 c, .int .i64 n, .bool m]
  have F0 : Fr (fun _ => False) w (w.alloc (.cells #[.int .i64 c, .int .i64 n, .bool m] 86)) := (Fr.refl w).alloc _
  obtain ⟨z, hz⟩ : ∃ z, z = w.heap.size := ⟨_, rfl⟩
  rw [← hz] at B
  have HZ := Lib.hid hz
  clear hz hv ht hN
  rw [show tagV ⟨c, n, m⟩ = .agg #[.int .i64 c, .int .i64 n, .bool m] from rfl]
  go_enter Tryz.func50, Tryz.ntmps50
  go_upto_region 1 with fail
  rw [← HZ.out]
  generalize (w.alloc (.cells #[.int .i64 c, .int .i64 n, .bool m] 86)) = w0 at *
  have S := B.cell
  go_wp2_with fail
  refine (r02Bytes_any ⟨c, n, m⟩ HT.out w0).mono ?_
  rintro e w1 ⟨vb, rfl, hob, F1⟩
  have G1 := F0.trans F1
  have hob' := own_le hob F0.size
  obtain ⟨ab, cb, rfl, -⟩ := (Vals.of_own hob').1.form
  have HOB := Lib.hid hob'
  clear hob hob' F0 F1 B S
  go_wp2_with fail
  refine (r02Length_any N hl w1).mono ?_
  rintro e w2 ⟨vd, rfl, hod, F2⟩
  have G2 := G1.trans F2
  have hb0 : w.heap.size ≤ w2.heap.size := G2.size
  have ho1 := ownsRow_fr HOB.out F2 (fun _ _ h => h)
  have hvd := (Vals.of_own hod).1
  obtain ⟨ad, cd, rfl, -⟩ := hvd.form
  obtain ⟨v3, w3, hr3, ho3, F3, _⟩ := append_bytes ho1 ad _ cd (lenBytes N) hvd (by have := len_small N hl; simp; omega) hb0
  have hvb := (Vals.of_own ho1).2
  have G3 := G2.trans' F3 (fun i hi e => absurd hi (by have := hvb i e; omega))
  have hll : (Lib.byteCells (lenBytes N)).length = (lenBytes N).length := byteCells_len _
  obtain ⟨a3, c3, rfl, -⟩ := (Vals.of_own ho3).1
  have hb3 : w.heap.size ≤ w3.heap.size := G3.size
  obtain ⟨v4, w4, hr4, ho4, F4, _⟩ := append_bytes ho3 a _ cap l (HB.out.old G3) (by have := len_small N hl; have := HN.out; simp; omega) hb3
  have hvb4 := (Vals.of_own ho3).2
  have G4 := G3.trans' F4 (fun i hi e => absurd hi (by have := hvb4 i e; omega))
  rw [← HN.out] at hr4 ho4
  have HO4 := Lib.hid ho4
  have HG4 := Lib.hid G4
  clear hod G2 ho1 hvd ho3 F3 hvb G3 F2 F4 hvb4 G4 ho4
  generalize (Lib.byteCells ([tagByte ⟨c, n, m⟩] ++ lenBytes N)).length = L3 at *
  go_wp2_with (at_builtin; first
    | refine wpList_append_run (by rfl) (.tmp 7) (.tmp 10) 23 (by rfl) _ w3 (by exact hr3) ?_
    | refine wpList_append_run (by rfl) (.tmp 12) (.tmp 13) 23 (by rfl) _ w4 (by exact hr4) ?_)
  go_ret
  refine ⟨_, rfl, ?_, HG4.out⟩
  have := HO4.out
  have e : wrapS ⟨c, n, m⟩ l = [tagByte ⟨c, n, m⟩] ++ lenBytes N ++ l := by rw [wrapS, ← HN.out]; simp
  rw [wrap_len, ← HN.out, e]
  exact this
end Go.Proofs.YtacekpdjapgfcaaGreatDoor

namespace Go.Proofs.YtacekpdjapgfcaaGreatDoor
open Go Go.RowKit Go.Q
set_option linter.unusedSimpArgs false
set_option maxRecDepth 20000 in
set_option maxHeartbeats 2000000 in
theorem r04digits_any : ∀ (n : Nat), n ≤ 2147483647 → ∀ (w : World),
    Calls Tryz.prog 301 #[.int .i64 n] w fun e w' => ∃ v, e = .returned v ∧ w'.ownsRow w.heap.size 5 1 v (base128 n).length (Lib.byteCells (base128 n)) ∧ Fr (fun _ => False) w w' := by
  intro n
  induction n using Nat.strongRecOn with
  | _ n ih =>
  intro hn w
  by_cases h128 : n < 128
  · have q1 : (n : Int) < 128 := by omega
    have hL := base128_small h128
    rw [hL]
    have hw8 : IntKind.u8.wrap (n : Int) = (n : Int) := by simp [IntKind.wrap, IntKind.signed, IntKind.bits]; omega
    have hk : (w.alloc (.cells #[.int .u8 n] 5)).ownsRow w.heap.size 5 1 (.slice (some ⟨w.heap.size, 0, none⟩) 1 1) 1 (Lib.byteCells [UInt8.ofNat n]) := by
      have e8 := u8 n (by omega)
      have BX := Blk.new w 5 #[.int .u8 n]
      have BX' : Blk (w.alloc (.cells #[.int .u8 n] 5)) w.heap.size 5 (Lib.byteCells [UInt8.ofNat n]).toArray := by
        simpa [Lib.byteCells, e8] using BX
      exact own_bytes BX' (by simp) w.heap.size (Nat.le_refl _)
    have HK := Lib.hid hk
    clear hk hL ih
    go_enter Tryz.func301, Tryz.ntmps301
    go_wp2_with fail
    go_ret
    exact ⟨_, rfl, HK.out, (Fr.refl w).alloc _⟩
  · have q1 : ¬ (n : Int) < 128 := by omega
    obtain ⟨front, e1, e2⟩ := base128_step (n := n) (by omega) hn
    have HC := Lib.hid (ih (n / 128) (by omega) (by omega) w)
    have hq : (n : Int) / 128 = ((n / 128 : Nat) : Int) := by omega
    have HE1 := Lib.hid e1
    have HE2 := Lib.hid e2
    obtain ⟨y, hy⟩ : ∃ y, y = n / 128 % 128 := ⟨_, rfl⟩
    have hyl : y < 128 := by omega
    rw [← hy] at HE1 HE2
    obtain ⟨r, hr⟩ : ∃ r, r = n % 128 := ⟨_, rfl⟩
    have hrl : r < 128 := by omega
    rw [← hr] at HE2
    have hri : (n : Int) % 128 = (r : Int) := by omega
    have hw8 : IntKind.u8.wrap (r : Int) = (r : Int) := by simp [IntKind.wrap, IntKind.signed, IntKind.bits]; omega
    have hw9 : IntKind.u8.wrap ((y : Int) + 128) = (y : Int) + 128 := by simp [IntKind.wrap, IntKind.signed, IntKind.bits]; omega
    generalize n / 128 = m at *
    clear ih e1 e2 hy hr
    go_enter Tryz.func301, Tryz.ntmps301
    go_wp2_with fail
    refine HC.out.mono ?_
    rintro e w1 ⟨v, rfl, ho, F1⟩
    obtain ⟨a, l, c, rfl, rfl⟩ := own_shape ho
    rw [HE1.out] at ho
    have hbl : (base128 m).length = front.length + 1 := by rw [HE1.out]; simp
    rw [hbl]
    have hcells : Lib.byteCells (front ++ [UInt8.ofNat y]) = Lib.byteCells front ++ [.int .u8 y] := by
      have := u8 y (by omega)
      simp [Lib.byteCells, this]
    have hlen : (front ++ [UInt8.ofNat y]).length = front.length + 1 := by simp
    rw [hlen, hcells] at ho
    obtain ⟨g, rfl, hg1, hg2, -, hlc, hcm, hfz, hcell, hset, F2⟩ := own_set ho front.length (by omega) (.int .u8 ((y : Int) + 128))
    have hfl : (Lib.byteCells front).length = front.length := byteCells_len front
    rw [List.getElem?_append_right (by omega), hfl, Nat.sub_self] at hcell
    simp only [List.getElem?_cons_zero] at hcell
    have hcells2 : (Lib.byteCells front ++ [Value.int .u8 y]).set front.length (.int .u8 ((y : Int) + 128)) = Lib.byteCells (front ++ [UInt8.ofNat (y + 128)]) := by
      have := u8 (y + 128) (by omega)
      rw [List.set_append_right _ _ (by omega), hfl, Nat.sub_self]
      simp [Lib.byteCells, this]
      try omega
    rw [hcells2] at hset
    have HSET := Lib.hid hset
    have HF2 := Lib.hid (F1.trans' F2 (fun i hi e => by omega))
    have hi1 : ((front.length + 1 : Nat) : Int) - 1 = (front.length : Int) := by omega
    have hln : front.length < 1000 := by
      have : (base128 m).length ≤ 6 := by
        unfold base128
        have h5 := up7_len 5 (m / 128)
        simp only [List.length_reverse, List.length_cons]
        omega
      omega
    clear ho hset F1 F2 HC hcells hcells2 hlen hbl hfl
    go_upto_region 5 with fail
    generalize (w1.setCell ⟨g, front.length, none⟩ (.int .u8 ((y : Int) + 128))) = w2 at *
    have BX := Blk.new w2 5 #[.int .u8 r]
    have F3 : Fr (fun _ => False) w2 (w2.alloc (.cells #[.int .u8 r] 5)) := (Fr.refl w2).alloc _
    have hsrc : Bytes (w2.alloc (.cells #[.int .u8 r] 5)) (.slice (some ⟨w2.heap.size, 0, none⟩) 1 1) [UInt8.ofNat r] := by
      have e8 := u8 r (by omega)
      have BX' : Blk (w2.alloc (.cells #[.int .u8 r] 5)) w2.heap.size 5 (Lib.byteCells [UInt8.ofNat r]).toArray := by
        simpa [Lib.byteCells, e8] using BX
      exact Vals.of_block BX' (by simp [Lib.byteCells]; unfold maxLen; omega)
    have hs2 := HF2.out.size
    obtain ⟨v4, w4, hr4, ho4, F4, _⟩ := append_bytes (ownsRow_fr HSET.out F3 (fun _ _ h => h)) (some ⟨w2.heap.size, 0, none⟩) 1 1 [UInt8.ofNat r] hsrc (by omega) (Nat.le_trans hs2 F3.size)
    have hvb := (Vals.of_own HSET.out).2
    have HF4 := Lib.hid ((HF2.out.trans F3).trans' F4 (fun i hi e => by have := hvb i e; omega))
    obtain ⟨a4, c4, rfl, -⟩ := (Vals.of_own ho4).1
    rw [← HE2.out] at ho4 hr4
    have hbn : (base128 n).length = front.length + 1 + 1 := by rw [HE2.out]; simp
    rw [← hbn] at ho4
    have HO4 := Lib.hid ho4
    have HRUN := Lib.hid hr4
    clear ho4 hr4 F4 F3 hvb BX hsrc hbn HF2 HSET
    go_wp2_with (at_builtin; refine wpList_append_run (by rfl) (.tmp 24) (.tmp 28) 23 (by rfl) _ w4 (by exact HRUN.out) ?_)
    exact bodyPost_ret (v := .slice a4 (Lib.byteCells (base128 n)).length c4) (by simp [results, Tryz.results301, go_sem]) rfl ⟨_, rfl, HO4.out, HF4.out⟩
set_option maxRecDepth 20000 in
set_option maxHeartbeats 2000000 in
theorem r04Contents_any (v : Value) (o : List Int) (w : World) (h : Ints w v o) (ho : oidOk o = true) :
    Calls Tryz.prog 258 #[v] w fun e w' => ∃ v', e = .returned v' ∧ w'.ownsRow w.heap.size 5 1 v' (oidBytes o).length (Lib.byteCells (oidBytes o)) ∧ Fr (fun _ => False) w w' := by
  obtain ⟨hnm, hol, hol2, hno⟩ := nums_ok ho
  obtain ⟨a, cap, rfl, -, -, hx⟩ := Ints.form h
  obtain ⟨b, off, rfl, hy⟩ := hx (by omega)
  obtain ⟨x0, hx0⟩ : ∃ x, o[0]? = some x := ⟨_, List.getElem?_eq_getElem (by omega)⟩
  obtain ⟨x1, hx1⟩ : ∃ x, o[1]? = some x := ⟨_, List.getElem?_eq_getElem (by omega)⟩
  have e0 := hy 0 x0 hx0
  have e1 := hy 1 x1 hx1
  obtain ⟨N, hN⟩ : ∃ N, N = numsS o := ⟨_, rfl⟩
  have hN0 : N[0]? = some (40 * x0 + x1) := by rw [hN]; simp [numsS, List.getD, hx0, hx1]
  have hNs : ∀ i, N[i + 1]? = o[i + 2]? := fun i => by
    rw [hN]
    simp only [numsS, List.getElem?_cons_succ, List.getElem?_drop]
    congr 1
    omega
  have hob : oidBytes o = N.flatMap fun n => base128 n.toNat := by rw [hN]; rfl
  rw [← hN] at hnm hno
  rw [hob]
  have h0 := hno _ (List.mem_of_getElem? hN0)
  obtain ⟨m, hm⟩ : ∃ m : Nat, 40 * x0 + x1 = (m : Int) := ⟨(40 * x0 + x1).toNat, by omega⟩
  have hml : m ≤ 2147483647 := by omega
  have hft1 : ((N.take 1).flatMap fun n => base128 n.toNat) = base128 m := by
    have : N.take 1 = [(m : Int)] := by
      rw [show (1 : Nat) = 0 + 1 from rfl, List.take_add_one, hN0, hm]
      rfl
    rw [this]
    simp
  have hwm : 40 * x0 ≤ 4611686018427387904 ∧ -4611686018427387904 ≤ 40 * x0 := by
    have g : ∀ i, i < o.length → arcOk (o.getD i 0) = true := fun i hi => by
      simp only [oidOk, Bool.and_eq_true, decide_eq_true_eq] at ho
      rw [List.getD_eq_getElem?_getD, List.getElem?_eq_getElem hi]
      exact List.all_eq_true.1 ho.1.2 _ (List.getElem_mem hi)
    have g0 := g 0 (by omega)
    simp only [arcOk, List.getD, hx0, Option.getD_some, decide_eq_true_eq] at g0
    omega
  obtain ⟨M, hM⟩ : ∃ M, M = (N.flatMap fun n => base128 n.toNat).length := ⟨_, rfl⟩
  rw [← hM]
  have HM := Lib.hid hM
  clear hM
  have HY := Lib.hid hy
  have HNO := Lib.hid hno
  have HNS := Lib.hid hNs
  have HFT1 := Lib.hid hft1
  have r2 : ¬ (o.length : Int) < 2 := by omega
  have r0 : (0 : Int) < (o.length : Int) := by omega
  have r1 : (1 : Int) < (o.length : Int) := by omega
  have r0N : 0 < o.length := by omega
  have r1N : 1 < o.length := by omega
  have hw1 : IntKind.i64.wrap (40 * x0) = 40 * x0 := by simp [IntKind.wrap, IntKind.signed, IntKind.bits]; omega
  have hw2 : IntKind.i64.wrap (m : Int) = (m : Int) := by simp [IntKind.wrap, IntKind.signed, IntKind.bits]; omega
  simp only [Nat.add_zero] at e0
  have G : Fr (fun _ => False) w w.drew := (Fr.refl w).drew
  clear h hx hy hx0 hx1 hN0 hNs hN hob h0 hno hft1 ho
  go_enter Tryz.func258, Tryz.ntmps258
  go_upto_region 3 with fail
  have E0 : w.drew.cell? ⟨b, off, none⟩ = some (.int .i64 x0) := e0
  have E1 : w.drew.cell? ⟨b, off + 1, none⟩ = some (.int .i64 x1) := e1
  go_region_held3 (fun w' => w'.cell? ⟨b, off, none⟩ = some (.int .i64 x0) ∧ w'.cell? ⟨b, off + 1, none⟩ = some (.int .i64 x1)) (exact ⟨E0, E1⟩) (first | (go_at_call 301; (try rw [hw2]); refine (r04digits_any m hml _).mono ?_; rintro e w' ⟨v, rfl, hv, F⟩; obtain ⟨av, mv, cv, rfl, rfl⟩ := own_shape hv; replace E0 := F.cell E0 (fun h => h); replace E1 := F.cell E1 (fun h => h); replace G := G.trans F))
  all_goals
    rw [World.size_drew] at hv
    have HV := Lib.hid hv
    have HG0 := Lib.hid G
    obtain ⟨L0, hL0⟩ : ∃ L0, L0 = (base128 m).length := ⟨_, rfl⟩
    rw [← hL0] at HV ⊢
    have HL0 := Lib.hid hL0
    clear hv G F E0 E1 e0 e1 hL0
    go_wp2_with fail
    go_loopg [3, 4] (o.length - 1) (fun g u i wr => ∃ (j : Nat) (L : Nat) (a1 : Option Addr) (c1 : Nat), g = o.length - j ∧ 1 ≤ j ∧ j + 1 ≤ o.length ∧ u = .slice a1 L c1 ∧ i = .int .i64 ((j : Int) + 1) ∧ L = ((N.take j).flatMap fun n => base128 n.toNat).length ∧ wr.ownsRow w.heap.size 5 1 (.slice a1 L c1) L (Lib.byteCells ((N.take j).flatMap fun n => base128 n.toNat)) ∧ Fr (fun _ => False) w wr)
    case atStart => exact ⟨1, L0, av, cv, rfl, Nat.le_refl _, by omega, rfl, rfl, by rw [HFT1.out, HL0.out], by rw [HFT1.out]; exact HV.out, HG0.out⟩
    case round =>
      obtain ⟨j, L, a1, c1, hg, hj1, hj2, rfl, rfl, hL, ho1, F1⟩ := hrel
      have HG := Lib.hid hg
      have HO1 := Lib.hid ho1
      have HF1 := Lib.hid F1
      have HL := Lib.hid hL
      have hLl : L ≤ 2000 := by
        have h1 := flat128_len (N.take j)
        rw [← hL, List.length_take] at h1
        omega
      clear hg ho1 hL
      by_cases hjl : j + 1 < o.length
      · obtain ⟨x, hxj⟩ : ∃ x, o[j + 1]? = some x := ⟨_, List.getElem?_eq_getElem hjl⟩
        have ex := F1.cell (HY.out (j + 1) x hxj) (fun h => h)
        have hNj : N[j]? = some x := by
          have := HNS.out (j - 1)
          rw [show j - 1 + 1 = j from by omega, show j - 1 + 2 = j + 1 from by omega, hxj] at this
          exact this
        have hxb := HNO.out x (List.mem_of_getElem? hNj)
        obtain ⟨y, hyx⟩ : ∃ y : Nat, x = (y : Int) := ⟨x.toNat, by omega⟩
        subst hyx
        have hft : ((N.take (j + 1)).flatMap fun n => base128 n.toNat) = ((N.take j).flatMap fun n => base128 n.toNat) ++ base128 y := by
          rw [List.take_add_one, hNj]
          simp
        have HFT := Lib.hid hft
        have q1 : (0 : Int) ≤ (j : Int) + 1 := by omega
        have q2 : (j : Int) + 1 < (o.length : Int) := by omega
        have hin : ((j : Int) + 1).toNat = j + 1 := by omega
        have HD := Lib.hid (r04digits_any y (by omega) wr)
        clear hxj hNj hft F1
        go_wp2_with fail
        refine HD.out.mono ?_
        rintro e w3 ⟨v3, rfl, ho3, F3⟩
        obtain ⟨a3, l3, c3, rfl, rfl⟩ := own_shape ho3
        have hs1 := HF1.out.size
        have hv3 := (Vals.of_own ho3).1
        have hbl := (base128_len y).1
        obtain ⟨v4, w4, hr4, ho4, F4, _⟩ := append_bytes (ownsRow_fr HO1.out F3 (fun _ _ h => h)) a3 (base128 y).length c3 (base128 y) hv3 (by omega) (Nat.le_trans hs1 F3.size)
        have hvb := (Vals.of_own HO1.out).2
        have HF4 := Lib.hid ((HF1.out.trans F3).trans' F4 (fun i hi e => by have := hvb i e; omega))
        obtain ⟨a4, m4, c4, rfl, rfl⟩ := own_shape ho4
        rw [← HFT.out] at ho4
        have HO4 := Lib.hid ho4
        have HRUN := Lib.hid hr4
        clear ho4 hr4 F4 F3 hvb ho3 hv3 HO1 HF1
        go_wp2_with (at_builtin; refine wpList_append_run (by rfl) (.tmp 23) (.tmp 28) 23 (by rfl) _ w4 (by exact HRUN.out) ?_)
        go_roundg (o.length - (j + 1))
        case measure => rw [HG.out]; omega
        case rel => exact ⟨j + 1, L + (base128 y).length, a4, c4, rfl, by omega, by omega, rfl, by go_num, by rw [HFT.out, List.length_append, ← HL.out], HO4.out, HF4.out⟩
      · have q2 : ¬ (j : Int) + 1 < (o.length : Int) := by omega
        have hall : N.take j = N := List.take_of_length_le (by omega)
        have hlo := HL.out
        have ho1 := HO1.out
        rw [hall] at hlo ho1
        have HO2 := Lib.hid ho1
        have HLO := Lib.hid hlo
        clear hall hlo ho1 HO1 HL
        go_wp2_with fail
        exact bodyPost_ret (v := .slice a1 L c1) (by simp [results, Tryz.results258, go_sem]) rfl ⟨_, rfl, by rw [HM.out, ← HLO.out]; exact HO2.out, HF1.out⟩
set_option maxRecDepth 20000 in
set_option maxHeartbeats 2000000 in
theorem r04Whole_any (v : Value) (o : List Int) (w : World) (h : Ints w v o) (ho : oidOk o = true) :
    Calls Tryz.prog 219 #[v] w fun e w' => ∃ v', e = .returned v' ∧ w'.ownsRow w.heap.size 5 1 v' (oidWhole o).length (Lib.byteCells (oidWhole o)) ∧ Fr (fun _ => False) w w' := by
  have hol := oidBytes_len (nums_ok ho).2.1
  have HB := Lib.hid h
  have HO := Lib.hid ho
  clear h ho
  go_enter Tryz.func219, Tryz.ntmps219
  go_wp2_with fail
  refine (r02Of_any 6 w).mono ?_
  rintro e w1 ⟨rfl, F1⟩
  have HF1 := Lib.hid F1
  rw [show tagV (tagOf 6) = .agg #[.int .i64 0, .int .i64 6, .bool false] from rfl]
  clear F1
  go_wp2_with fail
  refine (r04Contents_any v o w1 (HB.out.old HF1.out) HO.out).mono ?_
  rintro e w2 ⟨v2, rfl, ho2, F2⟩
  have hB2 := (Vals.of_own ho2).1
  obtain ⟨a2, c2, rfl, -⟩ := hB2.form
  have HB2 := Lib.hid hB2
  have HF2 := Lib.hid (HF1.out.trans F2)
  clear ho2 hB2 F2
  go_wp2_with fail
  refine (r02Wrap_any (tagOf 6) (good_of (by omega) (by omega)) _ (oidBytes o) w2 HB2.out (by omega)).mono ?_
  rintro e w3 ⟨v3, rfl, ho3, F3⟩
  obtain ⟨a3, m3, c3, rfl, rfl⟩ := own_shape ho3
  have HO3 := Lib.hid (own_le ho3 HF2.out.size)
  have HF3 := Lib.hid (HF2.out.trans F3)
  clear ho3 F3
  go_wp2_with fail
  exact bodyPost_ret (v := .slice a3 _ c3) (by simp [results, Tryz.results219, go_sem]) rfl ⟨_, rfl, HO3.out, HF3.out⟩
end Go.Proofs.YtacekpdjapgfcaaGreatDoor

namespace Go.Q
open Go Go.RowKit
def leastK (l : List UInt8) : Int := if rightS 19 l = true then 19 else if rightS 12 l = true then 12 else 20
end Go.Q
namespace Go.Proofs.YtacekpdjapgfcaaGreatDoor
open Go Go.RowKit Go.Q
end Go.Proofs.YtacekpdjapgfcaaGreatDoor

namespace Go.Q
open Go Go.RowKit
abbrev BldAt (w : World) (base b : Nat) (l : List UInt8) : Prop := Lib.IsBuilder 276 5 base b (Lib.byteCells l) w
theorem BldAt.old {w w' : World} {base b : Nat} {l : List UInt8} (h : BldAt w base b l) (f : Fr (fun _ => False) w w') : BldAt w' base b l := by
  have g : ∀ p, Lib.BuilderAt 276 5 base b p (Lib.byteCells l) w → Lib.BuilderAt 276 5 base b p (Lib.byteCells l) w' := by
    rintro p ⟨hB, v, hb, hown, hne⟩
    exact ⟨hB, v, (f.block b (Array.getElem?_eq_some_iff.1 hb).1 (fun h => h)).trans hb, Go.Proofs.YtacekpdjapgfcaaGreatDoor.ownsRow_fr hown f (fun _ _ h => h), hne⟩
  rcases h with h | h
  · exact .inl (g _ h)
  · exact .inr (g _ h)
theorem BldAt.new (w : World) : BldAt (w.alloc (.cells #[.pointer none, .slice none 0 0] 276)) w.heap.size w.heap.size [] :=
  .inl ⟨Nat.le_refl _, .slice none 0 0, Blk.new w _ _, ⟨rfl, .inl ⟨rfl, rfl⟩⟩, by simp [Value.ownBlock]⟩
theorem Fr.of_below_at {B : Nat} {w w' : World} (h : Below B w w') : Fr (fun k => B ≤ k) w w' := ⟨h.os, h.tape, h.output, h.size, fun k _ hk => h.block k (by omega)⟩
end Go.Q
namespace Go.Proofs.YtacekpdjapgfcaaGreatDoor
open Go Go.RowKit Go.Q
abbrev Pows (w : World) : Prop := Lib.TabIs Tryz.prog w "internal/strconv.uint64pow10" .u64 Lib.pow10Tab
theorem Pows.fr {S : Nat → Prop} {w w' : World} (h : Pows w) (f : Fr S w w') (hS : ¬ S 0) : Pows w' := by
  have hg : Tryz.prog.globalNamed "internal/strconv.uint64pow10" = some 0 := by kernel_rfl
  unfold Pows Lib.TabIs at *
  rw [← h]
  unfold World.var? at *
  rw [hg] at h ⊢
  simp only [Option.bind_some] at h ⊢
  have hlt : 0 < w.heap.size := by
    rcases Nat.lt_or_ge 0 w.heap.size with h1 | h1
    · exact h1
    · rw [Array.getElem?_eq_none h1] at h; cases h
  rw [f.block _ hlt hS]
theorem Pows.old {w w' : World} (h : Pows w) (f : Fr (fun _ => False) w w') : Pows w' := h.fr f (fun h => h)
set_option maxRecDepth 100000 in
theorem bldCheck_any {w : World} {base b : Nat} {l : List UInt8} (h : BldAt w base b l) :
    Calls Tryz.prog 255 #[pt b] w fun e w' => e = .returned (.tuple #[]) ∧ Lib.BuilderAt 276 5 base b (pt b) (Lib.byteCells l) w' ∧ Below base w w' := by
  have hsz : (Tryz.prog.info? 276).map (·.size) = some 2 := by kernel_rfl
  obtain ⟨j, hj, hjs⟩ := Option.map_eq_some_iff.1 hsz
  rcases h with h | h
  · have h0 := h.cell0
    have hsh := h.shape
    have hfz := h.frozen0
    have H := Lib.hid h
    clear h hsz
    have hl : liesAt Tryz.prog Tryz.prog.depth 276 (2 / Tryz.prog.cellsOf 276) 0 276 1 = true := by kernel_rfl
    have r1 := Lib.run_to_unsafe (P := Tryz.prog) w ⟨b, 0, none⟩ Tryz.underlying274 Tryz.underlying338 hj (by rw [hjs]; decide) hsh (Nat.zero_lt_succ 1)
    have r3 := Lib.run_from_unsafe (P := Tryz.prog) w ⟨b, 0, none⟩ Tryz.underlying338 Tryz.underlying274 hj hsh hl
    have r2 : (callFunc 299 #[.pointer (some ⟨b, 0, none⟩)]).run Tryz.prog w = .ok (.value (.pointer (some ⟨b, 0, none⟩))) w := by
      rw [run_callFunc_extern Tryz.func299 (by kernel_rfl) (by kernel_rfl) (by kernel_rfl) (e := Extern.AbiNoEscape.same) (by kernel_rfl), Lib.run_noEscape]
      rfl
    go_enter Tryz.func255, Tryz.ntmps255
    go_wp2
    go_end0
    exact ⟨rfl, H.out.used _, (Below.refl base w).setCell (p := ⟨b, 0, none⟩) H.out.1 _⟩
  · have h0 := h.cell0
    have H := Lib.hid h
    have r1 := Lib.run_neq_ptr_same (P := Tryz.prog) w (tp := 274) ⟨b, 0, none⟩ Tryz.underlying274 hj
    clear h hsz
    go_enter Tryz.func255, Tryz.ntmps255
    go_wp2
    go_end0
    exact ⟨rfl, H.out, Below.refl base w⟩
theorem info_u8 : (Tryz.prog.info? 5).map (fun i => (i.zero, i.size, i.bytes)) = some (some (.int .u8 0), 1, 1) := by kernel_rfl
theorem bld_put {w w2 : World} {base b : Nat} {l m : List UInt8} {v v' : Value} (hB : base ≤ b) (hbk : w.heap[b]? = some (.cells #[pt b, v] 276 (0, 0))) (hne : v.ownBlock ≠ some b) (F : Fr (fun k => v.ownBlock = some k) w w2) (hown : w2.ownsRow base 5 1 v' (l ++ m).length (Lib.byteCells (l ++ m))) :
    w2.heap[b]? = some (.cells #[pt b, v] 276 (0, 0)) ∧ BldAt (w2.setCell ⟨b, 1, none⟩ v') base b (l ++ m) := by
  have hb2 : w2.heap[b]? = some (.cells #[pt b, v] 276 (0, 0)) := (F.block b (Array.getElem?_eq_some_iff.1 hbk).1 hne).trans hbk
  exact ⟨hb2, .inr (Lib.BuilderAt.put (T := 276) (e := 5) hB hb2 (bs' := Lib.byteCells (l ++ m)) (by rw [byteCells_len]; exact hown) (by decide))⟩
set_option maxRecDepth 100000 in
theorem bldByte_any {w : World} {base b : Nat} {l : List UInt8} (c : UInt8) (h : BldAt w base b l) (hl : l.length ≤ 109951162777) (hbw : base ≤ w.heap.size) :
    Calls Tryz.prog 287 #[pt b, .int .u8 c.toNat] w fun e w' => e = .returned .nilIface ∧ BldAt w' base b (l ++ [c]) ∧ Below base w w' := by
  have HC := Lib.hid (bldCheck_any h)
  clear h
  go_enter Tryz.func287, Tryz.ntmps287
  go_wp2_with fail
  refine HC.out.mono ?_
  rintro e w1 ⟨rfl, ⟨hB, v, hbk, hown, hne⟩, hb1⟩
  rw [byteCells_len] at hown
  have c1 : w1.cell? ⟨b, 1, none⟩ = some v := by rw [Lib.cell_of_heap hbk]; rfl
  have F1 : Fr (fun _ => False) w1 (w1.alloc (.cells #[.int .u8 c.toNat] 5)) := (Fr.refl w1).alloc _
  have hs1 := hb1.size
  obtain ⟨a', c', w2, hrun, hown2, F2, hk2⟩ := add_gen Tryz.underlying23 info_u8 rfl (by decide) (by decide) hown (by omega) F1 w1.heap.size [.int .u8 c.toNat] rfl (Blk.new w1 5 #[.int .u8 c.toNat]) (by simp [Value.oneCell']) (by omega)
  have hown2' : w2.ownsRow base 5 1 (.slice a' (l.length + 1) c') (l ++ [c]).length (Lib.byteCells (l ++ [c])) := by
    rw [byteCells_append, List.length_append]
    exact hown2
  obtain ⟨hb2, hat⟩ := bld_put hB hbk hne F2 hown2'
  have HRUN := Lib.hid hrun
  have HAT := Lib.hid hat
  have d1 : w2.cell? ⟨b, 1, none⟩ = some v := by rw [Lib.cell_of_heap hb2]; rfl
  have f1 : w2.frozen? ⟨b, 1, none⟩ = false := Lib.frozen_of_heap hb2 1
  have hvb := (Vals.of_own hown).2
  have HBL := Lib.hid ((hb1.trans (Fr.below (B := base) F2 (by omega) (fun i hi e => by have := (hvb i e).1; omega))).setCell (p := ⟨b, 1, none⟩) hB (.slice a' (l.length + 1) c'))
  clear HC hbk hown F1 F2 hrun hown2 hown2' hb2 hat hk2 hb1 hne hvb
  go_wp2_with (at_builtin; refine wpList_append_run (by rfl) (.tmp 11) (.tmp 13) 23 (by rfl) _ w2 (by exact HRUN.out) ?_)
  go_ret
  exact ⟨rfl, HAT.out, HBL.out⟩
set_option maxRecDepth 100000 in
theorem bldString_any {w : World} {base b : Nat} {l : List UInt8} (m : List UInt8) (h : BldAt w base b l) (hl : l.length + m.length ≤ 1099511627776) (hbw : base ≤ w.heap.size) :
    Calls Tryz.prog 208 #[pt b, str m] w fun e w' => e = .returned (.tuple #[.int .i64 m.length, .nilIface]) ∧ BldAt w' base b (l ++ m) ∧ Below base w w' := by
  have HC := Lib.hid (bldCheck_any h)
  obtain ⟨i0, hi, hz0, hz1, hz2⟩ := info_parts info_u8
  have hms : (ByteArray.mk m.toArray).size = m.length := by simp [ByteArray.size]
  clear h
  go_enter Tryz.func208, Tryz.ntmps208
  go_wp2_with fail
  refine HC.out.mono ?_
  rintro e w1 ⟨rfl, ⟨hB, v, hbk, hown, hne⟩, hb1⟩
  rw [byteCells_len] at hown
  have c1 : w1.cell? ⟨b, 1, none⟩ = some v := by rw [Lib.cell_of_heap hbk]; rfl
  have hs1 := hb1.size
  go_wp2_with (at_builtin; refine Lib.wpList_append_own_string _ (by rfl) (.tmp 12) (.tmp 13) 23 9 (by rfl) base 5 i0 Tryz.underlying23 Tryz.underlying9 hi hz0 hz1 hz2 _ _ _ (by rfl) hown ⟨m.toArray⟩ (by rfl) ?c3 ?c4 ?c5 ?_)
  case c3 => rw [hms]; unfold maxLen; omega
  case c4 => rw [hms]; omega
  case c5 => omega
  intro v' w2 hown2 hgrow _
  have F2 := Fr.of_grown hgrow
  have hsc : Lib.strCells ⟨m.toArray⟩ = Lib.byteCells m := rfl
  have hown2' : w2.ownsRow base 5 1 v' (l ++ m).length (Lib.byteCells (l ++ m)) := by
    rw [byteCells_append, List.length_append, ← hsc, ← hms]
    exact hown2
  obtain ⟨hb2, hat⟩ := bld_put hB hbk hne F2 hown2'
  have HAT := Lib.hid hat
  have d1 : w2.cell? ⟨b, 1, none⟩ = some v := by rw [Lib.cell_of_heap hb2]; rfl
  have f1 : w2.frozen? ⟨b, 1, none⟩ = false := Lib.frozen_of_heap hb2 1
  have hvb := (Vals.of_own hown).2
  have HBL := Lib.hid ((hb1.trans (Fr.below (B := base) F2 (by omega) (fun i hi e => by have := (hvb i e).1; omega))).setCell (p := ⟨b, 1, none⟩) hB v')
  have HMS := Lib.hid hms
  obtain ⟨ao, n', cap, rfl, hnn⟩ := own_shape hown2
  have HNN := Lib.hid hnn
  clear HC hbk hown F2 hown2 hown2' hb2 hat hb1 hne hvb hgrow hsc hms hnn hi hz0 hz1 hz2
  go_wp2_with fail
  go_ret2
  exact ⟨by rw [← HMS.out]; rfl, HAT.out, HBL.out⟩
theorem bldOut_any {w : World} {base b : Nat} {l : List UInt8} (h : BldAt w base b l) (hbw : base ≤ w.heap.size) :
    Calls Tryz.prog 209 #[pt b] w fun e w' => e = .returned (str l) ∧ Below base w w' :=
  Go.Proofs.Tryz.Builder_String_any base b l w h hbw
theorem itoa_any (n : Int) (h0 : -9223372036854775808 ≤ n) (h1 : n ≤ 9223372036854775807) (w : World) (hP : Pows w) :
    Calls Tryz.prog 91 #[.int .i64 n] w fun e w' => e = .returned (str (Lib.itoa n)) ∧ Fr (fun _ => False) w w' := by
  refine (Go.Proofs.Tryz.strconv_Itoa n h0 h1 w hP).mono ?_
  rintro e w' ⟨rfl, k, os, rfl⟩
  exact ⟨rfl, rfl, rfl, rfl, by simp [Sort.grow], fun i hi _ => by simp [Sort.grow, Array.getElem?_append_left hi]⟩
end Go.Proofs.YtacekpdjapgfcaaGreatDoor
