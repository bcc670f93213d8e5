/-
  Merged by program: XCe17 XCe18 XBag XCeTo.
-/
import Derived.Test.YthjcoolefboodaaGreatDoorI0l
import Derived.Test.YthjcoolefboodaaGreatDoorI0a
import Derived.Test.YthjcoolefboodaaGreatDoorI0k
namespace Go.Q
open Go Go.RowKit
theorem vals_keeps {wb w : World} {v : Value} {xs : List Value} (h : Vals wb v xs) (F : Fr (fun k => wb.heap.size ≤ k) wb w) (K : Nat → Prop) (hK : ∀ k, K k → wb.heap.size ≤ k) : Kept (fun W => Vals W v xs) K w := fun W f =>
  h.fr (F.trans (f.mono (fun k _ hk => hK k hk))) (fun h0 k hk hs => by have := h.lt h0 k hk; omega)
end Go.Q
namespace Go.Proofs.YthjcoolefboodaaGreatDoor
open Go Go.RowKit Go.Q
set_option linter.unusedSimpArgs false
theorem info62 : (Tryz.prog.info? 62).map (fun i => (i.zero, i.size, i.bytes)) = some (some (.agg #[.slice none 0 0, .bool false, .slice none 0 0]), 3, 56) := by kernel_rfl
set_option maxRecDepth 20000 in
set_option maxHeartbeats 4000000 in
theorem lawExtTo_any (u : Value) (x : Ext) (wb w : World) (h : ExtAt wb u x) (Fb : Fr (fun _ => False) wb w) :
    Calls Tryz.prog 27 #[u] w fun e w' => (∃ ao co av cv, e = .returned (.agg #[.slice ao (cutExt x).o.length co, .bool (cutExt x).c, .slice av (cutExt x).v.length cv]) ∧ Kept (fun W => Ints W (.slice ao (cutExt x).o.length co) (cutExt x).o ∧ Bytes W (.slice av (cutExt x).v.length cv) (cutExt x).v) (fun k => wb.heap.size ≤ k ∧ k < w.heap.size) w') ∧ Fr (fun _ => False) w w' := by
  obtain ⟨ao, co, av, cv, rfl, ho, hv⟩ := h.form
  obtain ⟨_, _, he, hc1, hm1, -⟩ := Ints.form ho
  simp only [Value.slice.injEq] at he
  obtain ⟨rfl, -, rfl⟩ := he
  obtain ⟨_, _, he, hc2, hm2, -⟩ := Vals.form hv
  simp only [Value.slice.injEq] at he
  obtain ⟨rfl, -, rfl⟩ := he
  unfold maxLen at hm1 hm2
  obtain ⟨mo, hmo⟩ : ∃ m : Nat, m = min x.o.length 40 := ⟨_, rfl⟩
  obtain ⟨mv, hmv⟩ : ∃ m : Nat, m = min x.v.length 200 := ⟨_, rfl⟩
  have HOC := Lib.hid (Ints.cut ho 40 mo hmo)
  have HVC := Lib.hid (Vals.cut hv 200 mv hmv)
  have hol : (x.o.take 40).length = mo := by rw [List.length_take, hmo, Nat.min_comm]
  have hvl : (x.v.take 200).length = mv := by rw [List.length_take, hmv, Nat.min_comm]
  have HOL := Lib.hid hol
  have HVL := Lib.hid hvl
  have c1 : min (x.o.length : Int) 40 = (mo : Int) := by omega
  have c2 : min (x.v.length : Int) 200 = (mv : Int) := by omega
  have c3 : (mo : Int) ≤ (co : Int) := by omega
  have c4 : (mv : Int) ≤ (cv : Int) := by omega
  have c5 : (0 : Int) ≤ (mo : Int) := by omega
  have c6 : (0 : Int) ≤ (mv : Int) := by omega
  obtain ⟨z, hz⟩ : ∃ z, z = w.heap.size := ⟨_, rfl⟩
  have HZ := Lib.hid hz
  have F0 : Fr (fun _ => False) w ((w.alloc (.cells #[.slice ao x.o.length co, .bool x.c, .slice av x.v.length cv] 79)).alloc (.cells #[.slice none 0 0, .bool false, .slice none 0 0] 62)) := ((Fr.refl w).alloc _).alloc _
  have B := (Blk.new w 79 #[.slice ao x.o.length co, .bool x.c, .slice av x.v.length cv]).alloc (.cells #[.slice none 0 0, .bool false, .slice none 0 0] 62)
  have D := Blk.new (w.alloc (.cells #[.slice ao x.o.length co, .bool x.c, .slice av x.v.length cv] 79)) 62 #[.slice none 0 0, .bool false, .slice none 0 0]
  rw [World.size_alloc, ← hz] at D
  rw [← hz] at B
  have HF0 := Lib.hid F0
  have hs0 : w.heap.size + 2 = ((w.alloc (.cells #[.slice ao x.o.length co, .bool x.c, .slice av x.v.length cv] 79)).alloc (.cells #[.slice none 0 0, .bool false, .slice none 0 0] 62)).heap.size := by rw [World.size_alloc, World.size_alloc]
  have HFB := Lib.hid Fb
  clear h hz F0 Fb ho hv hol hvl hmo hmv hc1 hc2
  go_enter Tryz.func27, Tryz.ntmps27
  go_upto_region 1 with fail
  rw [← HZ.out]
  have HS0 := Lib.hid hs0
  clear hs0
  generalize ((w.alloc (.cells #[.slice ao x.o.length co, .bool x.c, .slice av x.v.length cv] 79)).alloc (.cells #[.slice none 0 0, .bool false, .slice none 0 0] 62)) = w0 at *
  have d0 := D.cell 0
  have d1 := D.cell 1
  have d2 := D.cell 2
  have f0 := D.frozen 0
  have f1 := D.frozen 1
  have f2 := D.frozen 2
  have G : Fr (fun _ => False) w w0 := HF0.out
  have D5 := set3 D (.slice ao mo co) (.bool x.c) (.slice av mv cv)
  have B5 := B.fr D5.2 (by omega)
  simp only [List.getElem?_toArray, List.getElem?_cons_succ, List.getElem?_cons_zero] at d0 d1 d2
  go_region_held3 (fun w' => ∀ j, w'.cell? ⟨z, j, none⟩ = (#[.slice ao x.o.length co, .bool x.c, .slice av x.v.length cv] : Array Value)[j]?) (first | exact B.cell | exact B5.cell) (first | fail)
  all_goals
    have n0 := D5.1.cell 0
    have n1 := D5.1.cell 1
    have n2 := D5.1.cell 2
    simp only [List.getElem?_toArray, List.getElem?_cons_succ, List.getElem?_cons_zero] at n0 n1 n2
    have hw1 := (HFB.out.trans G).mono (T := fun k => wb.heap.size ≤ k) (fun _ _ h => h.elim)
    have hko := vals_keeps HOC.out hw1 (fun k => wb.heap.size ≤ k ∧ k < w0.heap.size) (fun k hk => hk.1)
    have hkv := vals_keeps HVC.out hw1 (fun k => wb.heap.size ≤ k ∧ k < w0.heap.size) (fun k hk => hk.1)
    have hsb := HFB.out.size
    have HK := Lib.hid ((Kept.both hko hkv).step (K' := fun k => wb.heap.size ≤ k ∧ k < w.heap.size) D5.2 (fun k hk e => by have := HZ.out; have := HS0.out; omega) (fun k hk => by have := HS0.out; exact .inl (by omega)))
    have HF := Lib.hid (G.trans' D5.2 (fun i hi e => by have := HZ.out; omega))
    clear hko hkv B D B5 D5 G hw1
    go_wp2_with fail
    refine bodyPost_ret (v := .agg #[.slice ao mo co, .bool x.c, .slice av mv cv]) (by simp [results, Tryz.results27, go_sem, n0, n1, n2]) rfl ⟨⟨ao, co, av, cv, ?_, ?_⟩, HF.out.drew⟩
    · show _ = Ending.returned (.agg #[.slice ao (x.o.take 40).length co, .bool x.c, .slice av (x.v.take 200).length cv])
      rw [HOL.out, HVL.out]
    · show Kept (fun W => Ints W (.slice ao (x.o.take 40).length co) (x.o.take 40) ∧ Bytes W (.slice av (x.v.take 200).length cv) (x.v.take 200)) _ _
      rw [HOL.out, HVL.out]
      exact HK.out.old (Fr.refl _).drew
def fewExts (l : List Ext) : List Ext := (l.take 70).map cutExt
theorem fewExts_take {l : List Ext} {j : Nat} {x : Ext} (h : l[j]? = some x) : (l.take (j + 1)).map cutExt = (l.take j).map cutExt ++ [cutExt x] := by
  rw [List.take_add_one, h, List.map_append]
  rfl
set_option maxRecDepth 20000 in
set_option maxHeartbeats 4000000 in
theorem lawExtFew_any (v : Value) (l : List Ext) (wb w : World) (h : Exts wb v l) (Fb : Fr (fun _ => False) wb w) :
    Calls Tryz.prog 13 #[v] w fun e w' => (∃ a c, e = .returned (.slice a (fewExts l).length c) ∧ Kept (fun W => Exts W (.slice a (fewExts l).length c) (fewExts l)) (fun k => wb.heap.size ≤ k ∧ k < w.heap.size) w') ∧ Fr (fun _ => False) w w' := by
  have H := Lib.hid h
  have HFB := Lib.hid Fb
  have hwb := Fb.size
  have HDF := Lib.hid (show fewExts l = (l.take 70).map cutExt from rfl)
  obtain ⟨a0, cap0, rfl, -⟩ := h
  clear Fb
  go_enter Tryz.func13, Tryz.ntmps13
  go_wp2_with fail
  go_loopg [3, 4] l.length (fun g u i wr => ∃ (j : Nat) (a : Option Addr) (c : Nat) (gs : List Ext), g = l.length - j ∧ j ≤ l.length ∧ j ≤ 70 ∧ u = .slice a gs.length c ∧ i = .int .i64 j ∧ gs.length = j ∧ Hid (gs = (l.take j).map cutExt) ∧ GRow 3 RExt (fun k => wb.heap.size ≤ k ∧ k < w.heap.size) 62 wr w.heap.size (.slice a gs.length c) gs ∧ Fr (fun _ => False) w wr)
  case atStart => exact ⟨0, none, 0, [], rfl, Nat.zero_le _, by omega, rfl, rfl, rfl, Lib.hid rfl, GRow.nil _ _ _ _ _ _, Fr.refl _⟩
  case round =>
    obtain ⟨j, a, c, gs, hg, hj, hj70, rfl, rfl, hgl, HGS, hrow, F⟩ := hrel
    have HG := Lib.hid hg
    have HRW := Lib.hid hrow
    have HF := Lib.hid F
    have HGL := Lib.hid hgl
    clear hg hrow
    by_cases hjl : j < l.length
    · by_cases h70 : j < 70
      · obtain ⟨x, hx⟩ : ∃ x, l[j]? = some x := ⟨_, List.getElem?_eq_getElem hjl⟩
        obtain ⟨b, o, ao, co, av, cv, rfl, -, hga, e0, e1, e2⟩ := H.out.get hx
        replace e0 := (HFB.out.trans F).cell e0 (fun h => h)
        replace e1 := (HFB.out.trans F).cell e1 (fun h => h)
        replace e2 := (HFB.out.trans F).cell e2 (fun h => h)
        have r1 : (0 : Int) ≤ (j : Int) := by omega
        have r2 : (j : Int) < (l.length : Int) := by omega
        have r3 : (j : Int) < 70 := by omega
        have HO := Lib.hid (lawExtTo_any _ x wb wr hga (HFB.out.trans F))
        have HX := Lib.hid (fewExts_take hx)
        have hkp := HRW.out.keep
        clear hx hga F hgl h70
        generalize cutExt x = y at *
        go_wp2_with fail
        refine HO.out.mono ?_
        rintro e w2 ⟨⟨ao2, co2, av2, cv2, rfl, hk⟩, F2⟩
        obtain ⟨a7, c7, w7, hrun, hrow7, F7, -⟩ := (HRW.out.old F2).add (s := 40) Tryz.underlying40 info62 rfl (by decide) (by decide) (HF.out.trans F2).size ((Fr.refl w2).alloc (.cells #[.slice ao2 y.o.length co2, .bool y.c, .slice av2 y.v.length cv2] 62)) w2.heap.size [.slice ao2 y.o.length co2, .bool y.c, .slice av2 y.v.length cv2] rfl (Blk.new w2 62 #[.slice ao2 y.o.length co2, .bool y.c, .slice av2 y.v.length cv2]) (by simp [Value.oneCell']) y ((hk.weaken (fun k hk => by
          have hs := HF.out.size
          rcases hk with hk | hk
          · have := hkp k hk; omega
          · omega)).imp (fun W h => ⟨_, _, rfl, h.1, h.2⟩)) (by have := HGL.out; omega)
        have HRUN := Lib.hid hrun
        have HRW7 := Lib.hid hrow7
        have HF7 := Lib.hid ((HF.out.trans F2).trans' F7 (fun i hi e => absurd hi (by have := (hkp i e).1; omega)))
        have HGS7 := Lib.hid (show gs ++ [y] = (l.take (j + 1)).map cutExt by rw [HX.out, HGS.out])
        clear F2 hk hrun hrow7 F7 HO HRW hkp e0 e1 e2
        go_wp2_with (at_builtin; refine wpList_append_run (by rfl) (.tmp 15) (.tmp 21) 40 (by rfl) _ w7 (by exact HRUN.out) ?_)
        go_roundg (l.length - (j + 1))
        case measure => rw [HG.out]; omega
        case rel => exact ⟨j + 1, a7, c7, gs ++ [y], rfl, by omega, by omega, by rw [List.length_append]; rfl, by go_num, by rw [List.length_append, HGL.out]; rfl, HGS7, by rw [List.length_append]; exact HRW7.out, HF7.out⟩
      · obtain rfl : j = 70 := by omega
        have q2 : ¬ ((70 : Nat) : Int) < 70 := by omega
        have q1 : ((70 : Nat) : Int) < (l.length : Int) := by omega
        have HE := Lib.hid (show gs = fewExts l by rw [HGS.out, HDF.out])
        clear hgl hj70 h70
        go_wp2_with fail
        go_ret
        rw [← HE.out]
        exact ⟨⟨a, c, rfl, HRW.out.kept (by decide) _ (fun k h => ⟨h, h.2⟩)⟩, F⟩
    · have HE := Lib.hid (show gs = fewExts l by rw [HGS.out, HDF.out, List.take_of_length_le (by omega), List.take_of_length_le (by omega)])
      clear hgl
      go_wp2_with fail
      go_ret
      rw [← HE.out]
      exact ⟨⟨a, c, rfl, HRW.out.kept (by decide) _ (fun k h => ⟨h, h.2⟩)⟩, F⟩
theorem info79 : (Tryz.prog.info? 79).map (fun i => (i.zero, i.size, i.bytes)) = some (some (.agg #[.slice none 0 0, .bool false, .slice none 0 0]), 3, 56) := by kernel_rfl
set_option maxRecDepth 20000 in
set_option maxHeartbeats 4000000 in
theorem lawExtAll_any (v : Value) (l : List Ext) (wb w : World) (h : Exts wb v l) (Fb : Fr (fun _ => False) wb w) (hl : l.length ≤ 1000000) :
    Calls Tryz.prog 23 #[v] w fun e w' => (∃ a c, e = .returned (.slice a l.length c) ∧ Kept (fun W => Exts W (.slice a l.length c) l) (fun k => wb.heap.size ≤ k ∧ k < w.heap.size) w') ∧ Fr (fun _ => False) w w' := by
  have H := Lib.hid h
  have HFB := Lib.hid Fb
  have hwb := Fb.size
  obtain ⟨a0, cap0, rfl, -⟩ := h
  clear Fb
  go_enter Tryz.func23, Tryz.ntmps23
  go_wp2_with fail
  go_loopg [3, 4] l.length (fun g u i wr => ∃ (j : Nat) (a : Option Addr) (c : Nat) (gs : List Ext), g = l.length - j ∧ j ≤ l.length ∧ u = .slice a gs.length c ∧ i = .int .i64 j ∧ gs.length = j ∧ Hid (gs = l.take j) ∧ GRow 3 RExt (fun k => wb.heap.size ≤ k ∧ k < w.heap.size) 79 wr w.heap.size (.slice a gs.length c) gs ∧ Fr (fun _ => False) w wr)
  case atStart => exact ⟨0, none, 0, [], rfl, Nat.zero_le _, rfl, rfl, rfl, Lib.hid rfl, GRow.nil _ _ _ _ _ _, Fr.refl _⟩
  case round =>
    obtain ⟨j, a, c, gs, hg, hj, rfl, rfl, hgl, HGS, hrow, F⟩ := hrel
    have HG := Lib.hid hg
    have HRW := Lib.hid hrow
    have HF := Lib.hid F
    have HGL := Lib.hid hgl
    clear hg hrow
    by_cases hjl : j < l.length
    · obtain ⟨x, hx⟩ : ∃ x, l[j]? = some x := ⟨_, List.getElem?_eq_getElem hjl⟩
      obtain ⟨b, o, ao, co, av, cv, rfl, -, hga, e0, e1, e2⟩ := H.out.get hx
      have r1 : (0 : Int) ≤ (j : Int) := by omega
      have r2 : (j : Int) < (l.length : Int) := by omega
      obtain ⟨vo, vv, hq, hko, hkv⟩ := hga
      simp only [Value.agg.injEq, Array.mk.injEq, List.cons.injEq, and_true, true_and] at hq
      obtain ⟨rfl, rfl⟩ := hq
      obtain ⟨wa, hwa⟩ : ∃ wa, wa = wr.drew.alloc (.cells #[.slice ao x.o.length co, .bool x.c, .slice av x.v.length cv] 79) := ⟨_, rfl⟩
      have Fa : Fr (fun _ => False) wr wa := by rw [hwa]; exact (Fr.refl wr).drew.alloc _
      have BX : Blk wa wr.heap.size 79 #[.slice ao x.o.length co, .bool x.c, .slice av x.v.length cv] := by rw [hwa]; exact Blk.new wr.drew _ _
      have hkp := HRW.out.keep
      have hw1 := (HFB.out.trans HF.out).mono (T := fun k => wb.heap.size ≤ k) (fun _ _ h => h.elim)
      have hk : Kept (fun W => RExt W [.slice ao x.o.length co, .bool x.c, .slice av x.v.length cv] x) (fun k => (Value.slice a gs.length c).ownBlock = some k ∨ (wb.heap.size ≤ k ∧ k < w.heap.size)) wr := by
        have hge : ∀ k, ((Value.slice a gs.length c).ownBlock = some k ∨ (wb.heap.size ≤ k ∧ k < w.heap.size)) → wb.heap.size ≤ k := fun k e => by
          rcases e with e | e
          · have := (hkp k e).1; omega
          · exact e.1
        exact (Kept.both (vals_keeps hko hw1 _ hge) (vals_keeps hkv hw1 _ hge)).imp (fun W h => ⟨_, _, rfl, h.1, h.2⟩)
      obtain ⟨a7, c7, w7, hrun, hrow7, F7, -⟩ := HRW.out.add (s := 31) Tryz.underlying31 info79 rfl (by decide) (by decide) HF.out.size Fa wr.heap.size [.slice ao x.o.length co, .bool x.c, .slice av x.v.length cv] rfl BX (by simp [Value.oneCell']) x hk (by omega)
      have hS : ∀ w', Fr (fun _ => False) wb w' → w'.cell? ⟨b, o + j * 3, none⟩ = some (.slice ao x.o.length co) ∧ w'.cell? ⟨b, o + j * 3 + 1, none⟩ = some (.bool x.c) ∧ w'.cell? ⟨b, o + j * 3 + 2, none⟩ = some (.slice av x.v.length cv) := fun w' f => ⟨f.cell e0 (fun h => h), f.cell e1 (fun h => h), f.cell e2 (fun h => h)⟩
      have HF7 := Lib.hid (HF.out.trans' F7 (fun i hi e => absurd hi (by have := (hkp i e).1; omega)))
      have HC0 := Lib.hid (hS wr.drew (HFB.out.trans HF.out).drew)
      have HCa := Lib.hid (hS wa ((HFB.out.trans HF.out).trans Fa))
      have HC7 := Lib.hid (hS w7 (HFB.out.trans HF7.out))
      have HRUN := Lib.hid hrun
      have HRW7 := Lib.hid hrow7
      have HGS7 := Lib.hid (show gs ++ [x] = l.take (j + 1) by rw [List.take_add_one, hx, HGS.out]; rfl)
      rw [hwa] at HCa HRUN
      clear hrun hrow7 F7 BX Fa hwa hx hko hkv hk e0 e1 e2 hS hw1 HRW hkp F hgl
      go_upto_region 5 with fail
      go_region_held3 (fun w' => w'.cell? ⟨b, o + j * 3, none⟩ = some (.slice ao x.o.length co) ∧ w'.cell? ⟨b, o + j * 3 + 1, none⟩ = some (.bool x.c) ∧ w'.cell? ⟨b, o + j * 3 + 2, none⟩ = some (.slice av x.v.length cv)) (first | exact HC0.out | exact HCa.out | exact HC7.out) (first
        | (refine step_append_run (by rfl) (.tmp 11) (.tmp 28) 31 (by rfl) _ w7 (by exact HRUN.out) ?_)
        | fail)
      all_goals
        go_wp2_with fail
        go_roundg (l.length - (j + 1))
        case measure => rw [HG.out]; omega
        case rel => exact ⟨j + 1, a7, c7, gs ++ [x], rfl, by omega, by rw [List.length_append]; rfl, by go_num, by rw [List.length_append, HGL.out]; rfl, HGS7, by rw [List.length_append]; exact HRW7.out, HF7.out⟩
    · have hgs := HGS.out
      rw [List.take_of_length_le (by omega)] at hgs
      have HE := Lib.hid hgs
      clear hgs hgl
      go_wp2_with fail
      go_ret
      rw [← HE.out]
      exact ⟨⟨a, c, rfl, HRW.out.kept (by decide) _ (fun k h => ⟨h, h.2⟩)⟩, F⟩
end Go.Proofs.YthjcoolefboodaaGreatDoor

namespace Go.Q
open Go Go.RowKit
def AlgIn (W : World) (vo vp : Value) (o : List Int) (p : List UInt8) : Prop := Ints W vo o ∧ Bytes W vp p
def PubIn (W : World) (vo vp vk : Value) (o : List Int) (p k : List UInt8) : Prop := Ints W vo o ∧ Bytes W vp p ∧ Bytes W vk k
end Go.Q
namespace Go.Proofs.YthjcoolefboodaaGreatDoor
open Go Go.RowKit Go.Q
set_option linter.unusedSimpArgs false
set_option maxRecDepth 20000 in
set_option maxHeartbeats 4000000 in
theorem lawToAlg_any (vo vp : Value) (o : List Int) (p : List UInt8) (wb w : World) (h : AlgIn wb vo vp o p) (Fb : Fr (fun _ => False) wb w) :
    Calls Tryz.prog 26 #[.agg #[vo, vp]] w fun e w' => (∃ ao co ap cp, e = .returned (.agg #[.slice ao (o.take 40).length co, .slice ap (p.take 200).length cp]) ∧ Kept (fun W => AlgIn W (.slice ao (o.take 40).length co) (.slice ap (p.take 200).length cp) (o.take 40) (p.take 200)) (fun k => wb.heap.size ≤ k ∧ k < w.heap.size) w') ∧ Fr (fun _ => False) w w' := by
  obtain ⟨ho, hp⟩ := h
  obtain ⟨ao, co, rfl, hc1, hm1, -⟩ := Ints.form ho
  obtain ⟨ap, cp, rfl, hc2, hm2, -⟩ := Vals.form hp
  unfold maxLen at hm1 hm2
  obtain ⟨mo, hmo⟩ : ∃ m : Nat, m = min o.length 40 := ⟨_, rfl⟩
  obtain ⟨mp, hmp⟩ : ∃ m : Nat, m = min p.length 200 := ⟨_, rfl⟩
  have HOC := Lib.hid (Ints.cut ho 40 mo hmo)
  have HPC := Lib.hid (Vals.cut hp 200 mp hmp)
  have HOL := Lib.hid (show (o.take 40).length = mo by rw [List.length_take, hmo, Nat.min_comm])
  have HPL := Lib.hid (show (p.take 200).length = mp by rw [List.length_take, hmp, Nat.min_comm])
  have c1 : min (o.length : Int) 40 = (mo : Int) := by omega
  have c2 : min (p.length : Int) 200 = (mp : Int) := by omega
  have c3 : (mo : Int) ≤ (co : Int) := by omega
  have c4 : (mp : Int) ≤ (cp : Int) := by omega
  have c5 : (0 : Int) ≤ (mo : Int) := by omega
  have c6 : (0 : Int) ≤ (mp : Int) := by omega
  clear hmo hmp
  obtain ⟨z, hz⟩ : ∃ z, z = w.heap.size := ⟨_, rfl⟩
  have HZ := Lib.hid hz
  have F0 : Fr (fun _ => False) w ((w.alloc (.cells #[.slice ao o.length co, .slice ap p.length cp] 28)).alloc (.cells #[.slice none 0 0, .slice none 0 0] 37)) := ((Fr.refl w).alloc _).alloc _
  have B := (Blk.new w 28 #[.slice ao o.length co, .slice ap p.length cp]).alloc (.cells #[.slice none 0 0, .slice none 0 0] 37)
  have D := Blk.new (w.alloc (.cells #[.slice ao o.length co, .slice ap p.length cp] 28)) 37 #[.slice none 0 0, .slice none 0 0]
  rw [World.size_alloc, ← hz] at D
  rw [← hz] at B
  have HF0 := Lib.hid F0
  have hs0 : w.heap.size + 2 = ((w.alloc (.cells #[.slice ao o.length co, .slice ap p.length cp] 28)).alloc (.cells #[.slice none 0 0, .slice none 0 0] 37)).heap.size := by rw [World.size_alloc, World.size_alloc]
  have HFB := Lib.hid Fb
  clear hz F0 Fb ho hp hc1 hc2
  go_enter Tryz.func26, Tryz.ntmps26
  go_upto_region 1 with fail
  rw [← HZ.out]
  have HS0 := Lib.hid hs0
  clear hs0
  generalize ((w.alloc (.cells #[.slice ao o.length co, .slice ap p.length cp] 28)).alloc (.cells #[.slice none 0 0, .slice none 0 0] 37)) = w0 at *
  have G : Fr (fun _ => False) w w0 := HF0.out
  have d0 := D.cell 0
  have d1 := D.cell 1
  have e0 := B.cell 0
  have e1 := B.cell 1
  have f0 := D.frozen 0
  have f1 := D.frozen 1
  have D5 := set2 D (.slice ao mo co) (.slice ap mp cp)
  have B5 := B.fr D5.2 (by omega)
  simp only [List.getElem?_toArray, List.getElem?_cons_succ, List.getElem?_cons_zero] at d0 d1 e0 e1
  clear e0 e1
  go_region_held3 (fun w' => ∀ j, w'.cell? ⟨z, j, none⟩ = (#[.slice ao o.length co, .slice ap p.length cp] : Array Value)[j]?) (first | exact B.cell | exact B5.cell) (first | fail)
  all_goals
    have n0 := D5.1.cell 0
    have n1 := D5.1.cell 1
    simp only [List.getElem?_toArray, List.getElem?_cons_succ, List.getElem?_cons_zero] at n0 n1
    have hw1 := (HFB.out.trans G).mono (T := fun k => wb.heap.size ≤ k) (fun _ _ h => h.elim)
    have hko := vals_keeps HOC.out hw1 (fun k => wb.heap.size ≤ k ∧ k < w0.heap.size) (fun k hk => hk.1)
    have hkp := vals_keeps HPC.out hw1 (fun k => wb.heap.size ≤ k ∧ k < w0.heap.size) (fun k hk => hk.1)
    have hsb := HFB.out.size
    have HK := Lib.hid ((Kept.both hko hkp).step (K' := fun k => wb.heap.size ≤ k ∧ k < w.heap.size) D5.2 (fun k hk e => by have := HZ.out; have := HS0.out; omega) (fun k hk => by have := HS0.out; exact .inl (by omega)))
    have HF := Lib.hid (G.trans' D5.2 (fun i hi e => by have := HZ.out; omega))
    clear hko hkp B D B5 D5 G hw1
    go_wp2_with fail
    refine bodyPost_ret (v := .agg #[.slice ao mo co, .slice ap mp cp]) (by simp [results, Tryz.results26, go_sem, n0, n1]) rfl ⟨⟨ao, co, ap, cp, ?_, ?_⟩, HF.out.drew⟩
    · rw [HOL.out, HPL.out]
    · rw [HOL.out, HPL.out]
      exact HK.out.old (Fr.refl _).drew
set_option maxRecDepth 20000 in
set_option maxHeartbeats 4000000 in
theorem lawOfAlg_any (vo vp : Value) (o : List Int) (p : List UInt8) (wb w : World) (h : AlgIn wb vo vp o p) (Fb : Fr (fun _ => False) wb w) :
    Calls Tryz.prog 52 #[.agg #[vo, vp]] w fun e w' => (∃ ao co ap cp, e = .returned (.agg #[.slice ao o.length co, .slice ap p.length cp]) ∧ Kept (fun W => AlgIn W (.slice ao o.length co) (.slice ap p.length cp) o p) (fun k => wb.heap.size ≤ k ∧ k < w.heap.size) w') ∧ Fr (fun _ => False) w w' := by
  obtain ⟨ho, hp⟩ := h
  obtain ⟨ao, co, rfl, hc1, hm1, -⟩ := Ints.form ho
  obtain ⟨ap, cp, rfl, hc2, hm2, -⟩ := Vals.form hp
  unfold maxLen at hm1 hm2
  have HO := Lib.hid ho
  have HP := Lib.hid hp
  obtain ⟨z, hz⟩ : ∃ z, z = w.heap.size := ⟨_, rfl⟩
  have HZ := Lib.hid hz
  have F0 : Fr (fun _ => False) w ((w.alloc (.cells #[.slice ao o.length co, .slice ap p.length cp] 37)).alloc (.cells #[.slice none 0 0, .slice none 0 0] 28)) := ((Fr.refl w).alloc _).alloc _
  have B := (Blk.new w 37 #[.slice ao o.length co, .slice ap p.length cp]).alloc (.cells #[.slice none 0 0, .slice none 0 0] 28)
  have D := Blk.new (w.alloc (.cells #[.slice ao o.length co, .slice ap p.length cp] 37)) 28 #[.slice none 0 0, .slice none 0 0]
  rw [World.size_alloc, ← hz] at D
  rw [← hz] at B
  have HF0 := Lib.hid F0
  have hs0 : w.heap.size + 2 = ((w.alloc (.cells #[.slice ao o.length co, .slice ap p.length cp] 37)).alloc (.cells #[.slice none 0 0, .slice none 0 0] 28)).heap.size := by rw [World.size_alloc, World.size_alloc]
  have HFB := Lib.hid Fb
  clear hz F0 Fb ho hp hc1 hc2
  go_enter Tryz.func52, Tryz.ntmps52
  go_upto_region 1 with fail
  rw [← HZ.out]
  have HS0 := Lib.hid hs0
  clear hs0
  generalize ((w.alloc (.cells #[.slice ao o.length co, .slice ap p.length cp] 37)).alloc (.cells #[.slice none 0 0, .slice none 0 0] 28)) = w0 at *
  have G : Fr (fun _ => False) w w0 := HF0.out
  have d0 := D.cell 0
  have d1 := D.cell 1
  have e0 := B.cell 0
  have e1 := B.cell 1
  have f0 := D.frozen 0
  have f1 := D.frozen 1
  have D5 := set2 D (.slice ao o.length co) (.slice ap p.length cp)
  have B5 := B.fr D5.2 (by omega)
  simp only [List.getElem?_toArray, List.getElem?_cons_succ, List.getElem?_cons_zero] at d0 d1 e0 e1
  all_goals
    have n0 := D5.1.cell 0
    have n1 := D5.1.cell 1
    simp only [List.getElem?_toArray, List.getElem?_cons_succ, List.getElem?_cons_zero] at n0 n1
    have hw1 := (HFB.out.trans G).mono (T := fun k => wb.heap.size ≤ k) (fun _ _ h => h.elim)
    have hko := vals_keeps HO.out hw1 (fun k => wb.heap.size ≤ k ∧ k < w0.heap.size) (fun k hk => hk.1)
    have hkp := vals_keeps HP.out hw1 (fun k => wb.heap.size ≤ k ∧ k < w0.heap.size) (fun k hk => hk.1)
    have hsb := HFB.out.size
    have HK := Lib.hid ((Kept.both hko hkp).step (K' := fun k => wb.heap.size ≤ k ∧ k < w.heap.size) D5.2 (fun k hk e => by have := HZ.out; have := HS0.out; omega) (fun k hk => by have := HS0.out; exact .inl (by omega)))
    have HF := Lib.hid (G.trans' D5.2 (fun i hi e => by have := HZ.out; omega))
    clear hko hkp B D B5 D5 G hw1
    go_wp2_with fail
    exact bodyPost_ret (v := .agg #[.slice ao o.length co, .slice ap p.length cp]) (by simp [results, Tryz.results52, go_sem, n0, n1]) rfl ⟨⟨ao, co, ap, cp, rfl, HK.out⟩, HF.out⟩
set_option maxRecDepth 20000 in
set_option maxHeartbeats 4000000 in
theorem lawPubTo_any (vo vp vk : Value) (o : List Int) (p k : List UInt8) (wb w : World) (h : PubIn wb vo vp vk o p k) (Fb : Fr (fun _ => False) wb w) :
    Calls Tryz.prog 12 #[.agg #[vo, vp, vk]] w fun e w' => (∃ a1 c1 a2 c2 a3 c3, e = .returned (.agg #[.slice a1 (o.take 40).length c1, .slice a2 (p.take 200).length c2, .slice a3 (k.take 100).length c3]) ∧ Kept (fun W => PubIn W (.slice a1 (o.take 40).length c1) (.slice a2 (p.take 200).length c2) (.slice a3 (k.take 100).length c3) (o.take 40) (p.take 200) (k.take 100)) (fun q => wb.heap.size ≤ q ∧ q < w.heap.size) w') ∧ Fr (fun _ => False) w w' := by
  obtain ⟨ho, hp, hk⟩ := h
  obtain ⟨ao, co, rfl, -⟩ := Ints.form ho
  obtain ⟨ap, cp, rfl, -⟩ := Vals.form hp
  obtain ⟨ak, ck, rfl, hc1, hm1, -⟩ := Vals.form hk
  unfold maxLen at hm1
  obtain ⟨mk, hmk⟩ : ∃ m : Nat, m = min k.length 100 := ⟨_, rfl⟩
  have HKC := Lib.hid (Vals.cut hk 100 mk hmk)
  have HKL := Lib.hid (show (k.take 100).length = mk by rw [List.length_take, hmk, Nat.min_comm])
  have c1 : min (k.length : Int) 100 = (mk : Int) := by omega
  have c2 : (mk : Int) ≤ (ck : Int) := by omega
  have c3 : (0 : Int) ≤ (mk : Int) := by omega
  clear hmk
  obtain ⟨z, hz⟩ : ∃ z, z = w.heap.size := ⟨_, rfl⟩
  have HZ := Lib.hid hz
  have F0 : Fr (fun _ => False) w ((w.alloc (.cells #[.slice ao o.length co, .slice ap p.length cp, .slice ak k.length ck] 30)).alloc (.cells #[.slice none 0 0, .slice none 0 0, .slice none 0 0] 39)) := ((Fr.refl w).alloc _).alloc _
  have B := (Blk.new w 30 #[.slice ao o.length co, .slice ap p.length cp, .slice ak k.length ck]).alloc (.cells #[.slice none 0 0, .slice none 0 0, .slice none 0 0] 39)
  have D := Blk.new (w.alloc (.cells #[.slice ao o.length co, .slice ap p.length cp, .slice ak k.length ck] 30)) 39 #[.slice none 0 0, .slice none 0 0, .slice none 0 0]
  rw [World.size_alloc, ← hz] at D
  rw [← hz] at B
  have HF0 := Lib.hid F0
  have hs0 : w.heap.size + 2 = ((w.alloc (.cells #[.slice ao o.length co, .slice ap p.length cp, .slice ak k.length ck] 30)).alloc (.cells #[.slice none 0 0, .slice none 0 0, .slice none 0 0] 39)).heap.size := by rw [World.size_alloc, World.size_alloc]
  have HFB := Lib.hid Fb
  have HO := Lib.hid (fun W (F : Fr (fun _ => False) wb W) => lawToAlg_any _ _ o p wb W ⟨ho, hp⟩ F)
  obtain ⟨o1, ho1⟩ : ∃ x, x = o.take 40 := ⟨_, rfl⟩
  obtain ⟨p1, hp1⟩ : ∃ x, x = p.take 200 := ⟨_, rfl⟩
  rw [← ho1, ← hp1] at HO ⊢
  clear ho1 hp1
  clear hz F0 Fb ho hp hk hc1
  go_enter Tryz.func12, Tryz.ntmps12
  go_upto_region 1 with fail
  rw [← HZ.out]
  have HS0 := Lib.hid hs0
  clear hs0
  generalize ((w.alloc (.cells #[.slice ao o.length co, .slice ap p.length cp, .slice ak k.length ck] 30)).alloc (.cells #[.slice none 0 0, .slice none 0 0, .slice none 0 0] 39)) = w0 at *
  replace B := B.drew
  replace D := D.drew
  have G : Fr (fun _ => False) w w0.drew := HF0.out.drew
  have HSS := Lib.hid (show w0.drew.heap.size = w0.heap.size from rfl)
  go_region_held3 (fun w' => ∀ j, w'.cell? ⟨z, j, none⟩ = (#[.slice ao o.length co, .slice ap p.length cp, .slice ak k.length ck] : Array Value)[j]?) (first | exact B.cell | exact B5.cell) (first
    | (go_at_call 26; refine (HO.out _ (HFB.out.trans G)).mono ?_; rintro e w' ⟨⟨a7, c7, a8, c8, rfl, hq⟩, F⟩; replace B := B.fr F (fun h => h); replace D := D.fr F (fun h => h); have hkq := hq.weaken (K' := fun q => wb.heap.size ≤ q ∧ q < w0.heap.size) (fun q hq => by have h2 := HSS.out; omega); replace G := G.trans F; clear F hq; have d0 := D.cell 0; have d1 := D.cell 1; have d2 := D.cell 2; have f0 := D.frozen 0; have f1 := D.frozen 1; have f2 := D.frozen 2; have D5 := set3 D (.slice a7 o1.length c7) (.slice a8 p1.length c8) (.slice ak mk ck); have B5 := B.fr D5.2 (by omega); simp only [List.getElem?_toArray, List.getElem?_cons_succ, List.getElem?_cons_zero] at d0 d1 d2))
  all_goals
    have n0 := D5.1.cell 0
    have n1 := D5.1.cell 1
    have n2 := D5.1.cell 2
    simp only [List.getElem?_toArray, List.getElem?_cons_succ, List.getElem?_cons_zero] at n0 n1 n2
    have hw1 := (HFB.out.trans G).mono (T := fun q => wb.heap.size ≤ q) (fun _ _ h => h.elim)
    have hkk := vals_keeps HKC.out hw1 (fun q => wb.heap.size ≤ q ∧ q < w0.heap.size) (fun q hq => hq.1)
    have hsb := HFB.out.size
    have HK := Lib.hid (((Kept.both hkq hkk).imp (fun W h => ⟨h.1.1, h.1.2, h.2⟩) : Kept (fun W => PubIn W _ _ _ _ _ _) _ _).step (K' := fun q => wb.heap.size ≤ q ∧ q < w.heap.size) D5.2 (fun q hq e => by have := HZ.out; have := HS0.out; omega) (fun q hq => by have := HS0.out; exact .inl (by omega)))
    have HF := Lib.hid (G.trans' D5.2 (fun i hi e => by have := HZ.out; omega))
    clear hkq hkk B D B5 D5 G hw1
    go_wp2_with fail
    refine bodyPost_ret (v := .agg #[.slice a7 o1.length c7, .slice a8 p1.length c8, .slice ak mk ck]) (by simp [results, Tryz.results12, go_sem, n0, n1, n2]) rfl ⟨⟨a7, c7, a8, c8, ak, ck, ?_, ?_⟩, HF.out⟩
    · rw [HKL.out]
    · rw [HKL.out]
      exact HK.out
set_option maxRecDepth 20000 in
set_option maxHeartbeats 4000000 in
theorem lawPubOf_any (vo vp vk : Value) (o : List Int) (p k : List UInt8) (wb w : World) (h : PubIn wb vo vp vk o p k) (Fb : Fr (fun _ => False) wb w) :
    Calls Tryz.prog 22 #[.agg #[vo, vp, vk]] w fun e w' => (∃ a1 c1 a2 c2 a3 c3, e = .returned (.agg #[.slice a1 o.length c1, .slice a2 p.length c2, .slice a3 k.length c3]) ∧ Kept (fun W => PubIn W (.slice a1 o.length c1) (.slice a2 p.length c2) (.slice a3 k.length c3) o p k) (fun q => wb.heap.size ≤ q ∧ q < w.heap.size) w') ∧ Fr (fun _ => False) w w' := by
  obtain ⟨ho, hp, hk⟩ := h
  obtain ⟨ao, co, rfl, -⟩ := Ints.form ho
  obtain ⟨ap, cp, rfl, -⟩ := Vals.form hp
  obtain ⟨ak, ck, rfl, hc1, hm1, -⟩ := Vals.form hk
  unfold maxLen at hm1
  have HKC := Lib.hid hk
  obtain ⟨z, hz⟩ : ∃ z, z = w.heap.size := ⟨_, rfl⟩
  have HZ := Lib.hid hz
  have F0 : Fr (fun _ => False) w ((w.alloc (.cells #[.slice ao o.length co, .slice ap p.length cp, .slice ak k.length ck] 39)).alloc (.cells #[.slice none 0 0, .slice none 0 0, .slice none 0 0] 30)) := ((Fr.refl w).alloc _).alloc _
  have B := (Blk.new w 39 #[.slice ao o.length co, .slice ap p.length cp, .slice ak k.length ck]).alloc (.cells #[.slice none 0 0, .slice none 0 0, .slice none 0 0] 30)
  have D := Blk.new (w.alloc (.cells #[.slice ao o.length co, .slice ap p.length cp, .slice ak k.length ck] 39)) 30 #[.slice none 0 0, .slice none 0 0, .slice none 0 0]
  rw [World.size_alloc, ← hz] at D
  rw [← hz] at B
  have HF0 := Lib.hid F0
  have hs0 : w.heap.size + 2 = ((w.alloc (.cells #[.slice ao o.length co, .slice ap p.length cp, .slice ak k.length ck] 39)).alloc (.cells #[.slice none 0 0, .slice none 0 0, .slice none 0 0] 30)).heap.size := by rw [World.size_alloc, World.size_alloc]
  have HFB := Lib.hid Fb
  have HO := Lib.hid (fun W (F : Fr (fun _ => False) wb W) => lawOfAlg_any _ _ o p wb W ⟨ho, hp⟩ F)
  clear hz F0 Fb ho hp hk hc1
  go_enter Tryz.func22, Tryz.ntmps22
  go_upto_region 1 with fail
  rw [← HZ.out]
  have HS0 := Lib.hid hs0
  clear hs0
  generalize ((w.alloc (.cells #[.slice ao o.length co, .slice ap p.length cp, .slice ak k.length ck] 39)).alloc (.cells #[.slice none 0 0, .slice none 0 0, .slice none 0 0] 30)) = w0 at *
  replace B := B.drew
  replace D := D.drew
  have G : Fr (fun _ => False) w w0.drew := HF0.out.drew
  have HSS := Lib.hid (show w0.drew.heap.size = w0.heap.size from rfl)
  go_region_held3 (fun w' => ∀ j, w'.cell? ⟨z, j, none⟩ = (#[.slice ao o.length co, .slice ap p.length cp, .slice ak k.length ck] : Array Value)[j]?) (first | exact B.cell | exact B5.cell) (first
    | (go_at_call 52; refine (HO.out _ (HFB.out.trans G)).mono ?_; rintro e w' ⟨⟨a7, c7, a8, c8, rfl, hq⟩, F⟩; replace B := B.fr F (fun h => h); replace D := D.fr F (fun h => h); have hkq := hq.weaken (K' := fun q => wb.heap.size ≤ q ∧ q < w0.heap.size) (fun q hq => by have h2 := HSS.out; omega); replace G := G.trans F; clear F hq; have d0 := D.cell 0; have d1 := D.cell 1; have d2 := D.cell 2; have f0 := D.frozen 0; have f1 := D.frozen 1; have f2 := D.frozen 2; have D5 := set3 D (.slice a7 o.length c7) (.slice a8 p.length c8) (.slice ak k.length ck); have B5 := B.fr D5.2 (by omega); simp only [List.getElem?_toArray, List.getElem?_cons_succ, List.getElem?_cons_zero] at d0 d1 d2))
  all_goals
    have n0 := D5.1.cell 0
    have n1 := D5.1.cell 1
    have n2 := D5.1.cell 2
    simp only [List.getElem?_toArray, List.getElem?_cons_succ, List.getElem?_cons_zero] at n0 n1 n2
    have hw1 := (HFB.out.trans G).mono (T := fun q => wb.heap.size ≤ q) (fun _ _ h => h.elim)
    have hkk := vals_keeps HKC.out hw1 (fun q => wb.heap.size ≤ q ∧ q < w0.heap.size) (fun q hq => hq.1)
    have hsb := HFB.out.size
    have HK := Lib.hid (((Kept.both hkq hkk).imp (fun W h => ⟨h.1.1, h.1.2, h.2⟩) : Kept (fun W => PubIn W _ _ _ _ _ _) _ _).step (K' := fun q => wb.heap.size ≤ q ∧ q < w.heap.size) D5.2 (fun q hq e => by have := HZ.out; have := HS0.out; omega) (fun q hq => by have := HS0.out; exact .inl (by omega)))
    have HF := Lib.hid (G.trans' D5.2 (fun i hi e => by have := HZ.out; omega))
    clear hkq hkk B D B5 D5 G hw1
    go_wp2_with fail
    exact bodyPost_ret (v := .agg #[.slice a7 o.length c7, .slice a8 p.length c8, .slice ak k.length ck]) (by simp [results, Tryz.results22, go_sem, n0, n1, n2]) rfl ⟨⟨a7, c7, a8, c8, ak, ck, rfl, HK.out⟩, HF.out⟩
end Go.Proofs.YthjcoolefboodaaGreatDoor

namespace Go.Q
open Go Go.RowKit
def putL (W : World) (z : Nat) : Nat → List Value → World
  | _, [] => W
  | i, v :: l => putL (W.setCell ⟨z, i, none⟩ v) z (i + 1) l
theorem setL_take {cs : Array Value} {pre : List Value} {v : Value} {rest : List Value} {x : Value} (h : cs.toList = pre ++ x :: rest) : (cs.setIfInBounds pre.length v).toList = (pre ++ [v]) ++ rest := by
  rw [Array.toList_setIfInBounds, h, List.set_append_right _ _ (Nat.le_refl _), Nat.sub_self, List.set_cons_zero, List.append_assoc]
  rfl
theorem putL_blk {t : TypeId} {z : Nat} : ∀ (l rest pre : List Value) (W : World) (cs : Array Value), Blk W z t cs → cs.toList = pre ++ rest → rest.length = l.length → Blk (putL W z pre.length l) z t (pre ++ l).toArray ∧ Fr (fun k => k = z) W (putL W z pre.length l)
  | [], rest, pre, W, cs, h, he, hl => by
    have hr : rest = [] := List.length_eq_zero_iff.1 hl
    rw [hr, List.append_nil] at he
    have hc : cs = pre.toArray := by rw [← he]
    rw [List.append_nil, ← hc]
    exact ⟨h, Fr.refl W⟩
  | v :: l, rest, pre, W, cs, h, he, hl => by
    match rest, hl with
    | x :: rest, hl =>
      have h1 := h.set pre.length v
      have h2 := setL_take (v := v) he
      have h3 := putL_blk l rest (pre ++ [v]) _ _ h1 h2 (by simpa using hl)
      rw [List.length_append, List.length_singleton, List.append_assoc] at h3
      exact ⟨h3.1, (Fr.setCell (S := fun k => k = z) (p := ⟨z, pre.length, none⟩) (Fr.refl W) (fun _ => rfl) v).trans h3.2⟩
theorem putL_all {t : TypeId} {z : Nat} {W : World} {Z : List Value} (h : Blk W z t Z.toArray) {l : List Value} (hl : Z.length = l.length) : Blk (putL W z 0 l) z t l.toArray ∧ Fr (fun k => k = z) W (putL W z 0 l) :=
  putL_blk l Z [] W Z.toArray h (by simp) hl
def BagZ (Z : List Value) (t : TypeId) (w0 W : World) (l : List Nat) : Prop := Fr (fun _ => False) w0 W ∧ l.Nodup ∧ ∀ z ∈ l, w0.heap.size ≤ z ∧ Blk W z t Z.toArray
section
variable {Z : List Value} {t : TypeId} {w0 W W' : World} {l : List Nat}
theorem BagZ.nil (Z : List Value) (t : TypeId) (w : World) : BagZ Z t w w [] := ⟨Fr.refl w, List.nodup_nil, fun z hz => by simp at hz⟩
theorem BagZ.lt (h : BagZ Z t w0 W l) : ∀ z ∈ l, z < W.heap.size := fun z hz => (h.2.2 z hz).2.lt
theorem BagZ.more (h : BagZ Z t w0 W l) : BagZ Z t w0 (W.alloc (.cells Z.toArray t)) (W.heap.size :: l) := by
  refine ⟨h.1.alloc _, List.nodup_cons.2 ⟨fun hm => Nat.lt_irrefl _ (h.lt _ hm), h.2.1⟩, fun z hz => ?_⟩
  rcases List.mem_cons.1 hz with rfl | hz
  · exact ⟨h.1.size, Blk.new _ _ _⟩
  · exact ⟨(h.2.2 z hz).1, (h.2.2 z hz).2.alloc _⟩
theorem BagZ.two (h : BagZ Z t w0 W l) : BagZ Z t w0 ((W.alloc (.cells Z.toArray t)).alloc (.cells Z.toArray t)) ((W.heap.size + 1) :: W.heap.size :: l) := by
  have := h.more.more
  rwa [World.size_alloc] at this
theorem BagZ.call (h : BagZ Z t w0 W l) (F : Fr (fun _ => False) W W') : BagZ Z t w0 W' l := ⟨h.1.trans F, h.2.1, fun z hz => ⟨(h.2.2 z hz).1, (h.2.2 z hz).2.fr F (fun h => h)⟩⟩
theorem BagZ.drew (h : BagZ Z t w0 W l) : BagZ Z t w0 W.drew l := ⟨h.1.drew, h.2.1, fun z hz => ⟨(h.2.2 z hz).1, (h.2.2 z hz).2.drew⟩⟩
abbrev HeldL (R : World → Prop) (l : List Nat) (W : World) : Prop := Kept R (fun k => k ∈ l) W
theorem HeldL.more {R : World → Prop} (h : HeldL R l W) (o : Obj) : HeldL R (W.heap.size :: l) (W.alloc o) := Kept.step h (S := fun _ => False) ((Fr.refl W).alloc o) (fun _ _ h => h.elim) (fun k hk => by
  rcases List.mem_cons.1 hk with rfl | hk
  · exact .inr (Nat.le_refl _)
  · exact .inl hk)
theorem HeldL.two {R : World → Prop} (h : HeldL R l W) (o q : Obj) : HeldL R ((W.heap.size + 1) :: W.heap.size :: l) ((W.alloc o).alloc q) := by
  have := (h.more o).more q
  rwa [World.size_alloc] at this
theorem BagZ.held (h : BagZ Z t w0 W l) {R : World → Prop} {w' : World} (hk : Kept R (fun k => k < W.heap.size) w') : HeldL R l w' := fun V f => hk V (f.mono (fun k _ hm => h.lt k hm))
end
def DoneL (t : TypeId) (w0 : World) (R : World → Prop) (a d : List Value) (V : World) (p q : Nat) : Prop := Blk V p t a.toArray ∧ Blk V q t d.toArray ∧ R V ∧ Fr (fun _ => False) w0 V
section
variable {Z : List Value} {t : TypeId} {w0 W : World} {R : World → Prop} {a d : List Value}
theorem BagZ.fill {x y : Nat} (h : BagZ Z t w0 W [x, y]) (hk : HeldL R [x, y] W) (ha : Z.length = a.length) (hd : Z.length = d.length) :
    DoneL t w0 R a d (putL (putL W x 0 a) y 0 d) x y ∧ DoneL t w0 R a d (putL (putL W y 0 a) x 0 d) y x ∧ Blk (putL W x 0 a) y t Z.toArray ∧ Blk (putL W y 0 a) x t Z.toArray ∧ Blk W x t Z.toArray ∧ Blk W y t Z.toArray := by
  obtain ⟨F, hn, hz⟩ := h
  have hxy : x ≠ y := by
    intro e
    rw [e] at hn
    simp at hn
  obtain ⟨lx, Bx⟩ := hz x (by simp)
  obtain ⟨ly, By⟩ := hz y (by simp)
  have X1 := putL_all Bx ha
  have Y1 := By.fr X1.2 (fun e => hxy e.symm)
  have Y2 := putL_all Y1 hd
  have X2 := X1.1.fr Y2.2 hxy
  have y1 := putL_all By ha
  have x1 := Bx.fr y1.2 hxy
  have x2 := putL_all x1 hd
  have y2 := y1.1.fr x2.2 (fun e => hxy e.symm)
  exact ⟨⟨X2, Y2.1, hk _ ((X1.2.mono (fun k _ e => by simp [e])).trans (Y2.2.mono (fun k _ e => by simp [e]))), (F.trans' X1.2 (fun i hi e => by omega)).trans' Y2.2 (fun i hi e => by omega)⟩,
    ⟨y2, x2.1, hk _ ((y1.2.mono (fun k _ e => by simp [e])).trans (x2.2.mono (fun k _ e => by simp [e]))), (F.trans' y1.2 (fun i hi e => by omega)).trans' x2.2 (fun i hi e => by omega)⟩, Y1, x1, Bx, By⟩
theorem BagZ.fill1 {x : Nat} (h : BagZ Z t w0 W [x]) (hk : HeldL R [x] W) (ha : Z.length = a.length) (hd : Z.length = d.length) :
    DoneL t w0 R a d (putL (W.alloc (.cells a.toArray t)) x 0 d) W.heap.size x ∧ DoneL t w0 R a d (putL (putL (W.alloc (.cells Z.toArray t)) x 0 a) W.heap.size 0 d) x W.heap.size ∧
    Blk (W.alloc (.cells a.toArray t)) x t Z.toArray ∧ Blk (putL (W.alloc (.cells Z.toArray t)) x 0 a) W.heap.size t Z.toArray ∧ Blk (W.alloc (.cells Z.toArray t)) x t Z.toArray := by
  have h2 := h.more.fill (hk.more (.cells Z.toArray t)) ha hd
  obtain ⟨F, -, hz⟩ := h
  obtain ⟨lx, Bx⟩ := hz x (by simp)
  have hlt := Bx.lt
  have N1 := Blk.new W t a.toArray
  have B1 := Bx.alloc (.cells a.toArray t)
  have X2 := putL_all B1 hd
  have N2 := N1.fr X2.2 (by omega)
  exact ⟨⟨N2, X2.1, hk.more (.cells a.toArray t) _ (X2.2.mono (fun k _ e => by simp [e])), (F.alloc _).trans' X2.2 (fun i hi e => by omega)⟩, h2.2.1, B1, h2.2.2.2.1, h2.2.2.2.2.2⟩
theorem BagZ.fill0 (h : BagZ Z t w0 W []) (hk : HeldL R [] W) (hd : Z.length = d.length) :
    DoneL t w0 R a d ((W.alloc (.cells a.toArray t)).alloc (.cells d.toArray t)) W.heap.size (W.heap.size + 1) ∧ DoneL t w0 R a d ((W.alloc (.cells d.toArray t)).alloc (.cells a.toArray t)) (W.heap.size + 1) W.heap.size ∧
    DoneL t w0 R a d (putL ((W.alloc (.cells Z.toArray t)).alloc (.cells a.toArray t)) W.heap.size 0 d) (W.heap.size + 1) W.heap.size ∧ Blk ((W.alloc (.cells Z.toArray t)).alloc (.cells a.toArray t)) W.heap.size t Z.toArray := by
  have K : ∀ o q, R ((W.alloc o).alloc q) := fun o q => hk _ (((Fr.refl W).alloc o).alloc q)
  have N : ∀ (o : Obj) (cs : Array Value), Blk ((W.alloc o).alloc (.cells cs t)) (W.heap.size + 1) t cs := fun o cs => by
    have := Blk.new (W.alloc o) t cs
    rwa [World.size_alloc] at this
  have O : ∀ (cs : Array Value) (q : Obj), Blk ((W.alloc (.cells cs t)).alloc q) W.heap.size t cs := fun cs q => (Blk.new W t cs).alloc q
  have X := putL_all (O Z.toArray (.cells a.toArray t)) hd
  have hs := h.1.size
  refine ⟨⟨O _ _, N _ _, K _ _, (h.1.alloc _).alloc _⟩, ⟨N _ _, O _ _, K _ _, (h.1.alloc _).alloc _⟩, ⟨(N _ _).fr X.2 (by omega), X.1, hk _ ?_, ((h.1.alloc _).alloc _).trans' X.2 (fun i hi e => by omega)⟩, O _ _⟩
  exact (((Fr.refl W).alloc _).alloc _).trans' X.2 (fun i hi e => by omega)
end
end Go.Q

namespace Go.Proofs.YthjcoolefboodaaGreatDoor
open Go Go.RowKit Go.Q
set_option linter.unusedSimpArgs false
set_option maxRecDepth 20000 in
set_option maxHeartbeats 4000000 in
theorem lawNumTo_any (b : Bool) (vp : Value) (p : List UInt8) (wb w : World) (h : Bytes wb vp p) (Fb : Fr (fun _ => False) wb w) :
    Calls Tryz.prog 10 #[.agg #[.bool b, vp]] w fun e w' => (∃ a c, e = .returned (.agg #[.bool b, .slice a p.length c]) ∧ Kept (fun W => Bytes W (.slice a p.length c) p) (fun k => wb.heap.size ≤ k ∧ k < w.heap.size) w') ∧ Fr (fun _ => False) w w' := by
  obtain ⟨ap, cp, rfl, -⟩ := Vals.form h
  have HP := Lib.hid h
  obtain ⟨z, hz⟩ : ∃ z, z = w.heap.size := ⟨_, rfl⟩
  have HZ := Lib.hid hz
  have F0 : Fr (fun _ => False) w ((w.alloc (.cells #[.bool b, .slice ap p.length cp] 24)).alloc (.cells #[.bool false, .slice none 0 0] 34)) := ((Fr.refl w).alloc _).alloc _
  have B := (Blk.new w 24 #[.bool b, .slice ap p.length cp]).alloc (.cells #[.bool false, .slice none 0 0] 34)
  have D := Blk.new (w.alloc (.cells #[.bool b, .slice ap p.length cp] 24)) 34 #[.bool false, .slice none 0 0]
  rw [World.size_alloc, ← hz] at D
  rw [← hz] at B
  have HF0 := Lib.hid F0
  have hs0 : w.heap.size + 2 = ((w.alloc (.cells #[.bool b, .slice ap p.length cp] 24)).alloc (.cells #[.bool false, .slice none 0 0] 34)).heap.size := by rw [World.size_alloc, World.size_alloc]
  have HFB := Lib.hid Fb
  clear hz F0 Fb h
  go_enter Tryz.func10, Tryz.ntmps10
  go_upto_region 1 with fail
  rw [← HZ.out]
  have HS0 := Lib.hid hs0
  clear hs0
  generalize ((w.alloc (.cells #[.bool b, .slice ap p.length cp] 24)).alloc (.cells #[.bool false, .slice none 0 0] 34)) = w0 at *
  have G : Fr (fun _ => False) w w0 := HF0.out
  have e0 := B.cell 0
  have e1 := B.cell 1
  have d0 := D.cell 0
  have d1 := D.cell 1
  have f0 := D.frozen 0
  have f1 := D.frozen 1
  have D5 := set2 D (.bool b) (.slice ap p.length cp)
  have B5 := B.fr D5.2 (by omega)
  simp only [List.getElem?_toArray, List.getElem?_cons_succ, List.getElem?_cons_zero] at d0 d1 e0 e1
  all_goals
    have n0 := D5.1.cell 0
    have n1 := D5.1.cell 1
    simp only [List.getElem?_toArray, List.getElem?_cons_succ, List.getElem?_cons_zero] at n0 n1
    have hw1 := (HFB.out.trans G).mono (T := fun k => wb.heap.size ≤ k) (fun _ _ h => h.elim)
    have hkp := vals_keeps HP.out hw1 (fun k => wb.heap.size ≤ k ∧ k < w0.heap.size) (fun k hk => hk.1)
    have hsb := HFB.out.size
    have HK := Lib.hid (hkp.step (K' := fun k => wb.heap.size ≤ k ∧ k < w.heap.size) D5.2 (fun k hk e => by have := HZ.out; have := HS0.out; omega) (fun k hk => by have := HS0.out; exact .inl (by omega)))
    have HF := Lib.hid (G.trans' D5.2 (fun i hi e => by have := HZ.out; omega))
    clear hkp B D B5 D5 G hw1
    go_wp2_with fail
    exact bodyPost_ret (v := .agg #[.bool b, .slice ap p.length cp]) (by simp [results, Tryz.results10, go_sem, n0, n1]) rfl ⟨⟨ap, cp, rfl, HK.out⟩, HF.out⟩
set_option maxRecDepth 20000 in
set_option maxHeartbeats 4000000 in
theorem lawNumOf_any (b : Bool) (vp : Value) (p : List UInt8) (wb w : World) (h : Bytes wb vp p) (Fb : Fr (fun _ => False) wb w) :
    Calls Tryz.prog 20 #[.agg #[.bool b, vp]] w fun e w' => (∃ a c, e = .returned (.agg #[.bool b, .slice a p.length c]) ∧ Kept (fun W => Bytes W (.slice a p.length c) p) (fun k => wb.heap.size ≤ k ∧ k < w.heap.size) w') ∧ Fr (fun _ => False) w w' := by
  obtain ⟨ap, cp, rfl, -⟩ := Vals.form h
  have HP := Lib.hid h
  obtain ⟨z, hz⟩ : ∃ z, z = w.heap.size := ⟨_, rfl⟩
  have HZ := Lib.hid hz
  have F0 : Fr (fun _ => False) w ((w.alloc (.cells #[.bool b, .slice ap p.length cp] 34)).alloc (.cells #[.bool false, .slice none 0 0] 24)) := ((Fr.refl w).alloc _).alloc _
  have B := (Blk.new w 34 #[.bool b, .slice ap p.length cp]).alloc (.cells #[.bool false, .slice none 0 0] 24)
  have D := Blk.new (w.alloc (.cells #[.bool b, .slice ap p.length cp] 34)) 24 #[.bool false, .slice none 0 0]
  rw [World.size_alloc, ← hz] at D
  rw [← hz] at B
  have HF0 := Lib.hid F0
  have hs0 : w.heap.size + 2 = ((w.alloc (.cells #[.bool b, .slice ap p.length cp] 34)).alloc (.cells #[.bool false, .slice none 0 0] 24)).heap.size := by rw [World.size_alloc, World.size_alloc]
  have HFB := Lib.hid Fb
  clear hz F0 Fb h
  go_enter Tryz.func20, Tryz.ntmps20
  go_upto_region 1 with fail
  rw [← HZ.out]
  have HS0 := Lib.hid hs0
  clear hs0
  generalize ((w.alloc (.cells #[.bool b, .slice ap p.length cp] 34)).alloc (.cells #[.bool false, .slice none 0 0] 24)) = w0 at *
  have G : Fr (fun _ => False) w w0 := HF0.out
  have e0 := B.cell 0
  have e1 := B.cell 1
  have d0 := D.cell 0
  have d1 := D.cell 1
  have f0 := D.frozen 0
  have f1 := D.frozen 1
  have D5 := set2 D (.bool b) (.slice ap p.length cp)
  have B5 := B.fr D5.2 (by omega)
  simp only [List.getElem?_toArray, List.getElem?_cons_succ, List.getElem?_cons_zero] at d0 d1 e0 e1
  all_goals
    have n0 := D5.1.cell 0
    have n1 := D5.1.cell 1
    simp only [List.getElem?_toArray, List.getElem?_cons_succ, List.getElem?_cons_zero] at n0 n1
    have hw1 := (HFB.out.trans G).mono (T := fun k => wb.heap.size ≤ k) (fun _ _ h => h.elim)
    have hkp := vals_keeps HP.out hw1 (fun k => wb.heap.size ≤ k ∧ k < w0.heap.size) (fun k hk => hk.1)
    have hsb := HFB.out.size
    have HK := Lib.hid (hkp.step (K' := fun k => wb.heap.size ≤ k ∧ k < w.heap.size) D5.2 (fun k hk e => by have := HZ.out; have := HS0.out; omega) (fun k hk => by have := HS0.out; exact .inl (by omega)))
    have HF := Lib.hid (G.trans' D5.2 (fun i hi e => by have := HZ.out; omega))
    clear hkp B D B5 D5 G hw1
    go_wp2_with fail
    exact bodyPost_ret (v := .agg #[.bool b, .slice ap p.length cp]) (by simp [results, Tryz.results20, go_sem, n0, n1]) rfl ⟨⟨ap, cp, rfl, HK.out⟩, HF.out⟩
set_option maxRecDepth 100000 in
set_option maxHeartbeats 8000000 in
theorem lawCertOf_any (u : Value) (x : CertT) (wb w : World) (h : CertAt wb u x) (Fb : Fr (fun _ => False) wb w) (hi : x.iss.length ≤ 1000000 ∧ ∀ r ∈ x.iss, r.length ≤ 1000000) (hj : x.sub.length ≤ 1000000 ∧ ∀ r ∈ x.sub, r.length ≤ 1000000) (he : x.ex.length ≤ 1000000) :
    Calls Tryz.prog 8 #[u] w fun e w' => (∃ a1 c1 a2 c2 a3 c3 a4 c4 a5 c5 a6 c6 a7 c7, e = .returned (.agg #[.bool x.below, .slice a1 x.size.length c1, .slice a2 x.iss.length c2, .slice a3 x.sub.length c3, .int .i64 x.t0, .int .i64 x.t1, .slice a4 x.ao.length c4, .slice a5 x.ap.length c5, .slice a6 x.kn.length c6, .slice a7 x.ex.length c7]) ∧ Kept (fun W => CertIn W x (.slice a1 x.size.length c1) (.slice a2 x.iss.length c2) (.slice a3 x.sub.length c3) (.slice a4 x.ao.length c4) (.slice a5 x.ap.length c5) (.slice a6 x.kn.length c6) (.slice a7 x.ex.length c7)) (fun k => wb.heap.size ≤ k ∧ k < w.heap.size) w') ∧ Fr (fun _ => False) w w' := by
  obtain ⟨vs, vi, vj, va, vp, vk, ve, rfl, hs, hni, hnj, ho, hp, hk, hx⟩ := h
  obtain ⟨asz, csz, rfl, -⟩ := Vals.form hs
  obtain ⟨ai, ci, rfl⟩ := NameAt.shape hni
  obtain ⟨aj, cj, rfl⟩ := NameAt.shape hnj
  obtain ⟨ao, co, rfl, -⟩ := Ints.form ho
  obtain ⟨ap, cp, rfl, -⟩ := Vals.form hp
  obtain ⟨ak, ck, rfl, -⟩ := Vals.form hk
  have hx0 := hx
  obtain ⟨ae, ce, rfl, -⟩ := hx0
  obtain ⟨z, hz⟩ : ∃ z, z = w.heap.size := ⟨_, rfl⟩
  have HZ := Lib.hid hz
  have F0 : Fr (fun _ => False) w ((w.alloc (.cells #[.bool x.below, .slice asz x.size.length csz, .slice ai x.iss.length ci, .slice aj x.sub.length cj, .int .i64 x.t0, .int .i64 x.t1, .slice ao x.ao.length co, .slice ap x.ap.length cp, .slice ak x.kn.length ck, .slice ae x.ex.length ce] 42)).alloc (.cells #[.bool false, .slice none 0 0, .slice none 0 0, .slice none 0 0, .int .i64 0, .int .i64 0, .slice none 0 0, .slice none 0 0, .slice none 0 0, .slice none 0 0] 33)) := ((Fr.refl w).alloc _).alloc _
  have B := (Blk.new w 42 #[.bool x.below, .slice asz x.size.length csz, .slice ai x.iss.length ci, .slice aj x.sub.length cj, .int .i64 x.t0, .int .i64 x.t1, .slice ao x.ao.length co, .slice ap x.ap.length cp, .slice ak x.kn.length ck, .slice ae x.ex.length ce]).alloc (.cells #[.bool false, .slice none 0 0, .slice none 0 0, .slice none 0 0, .int .i64 0, .int .i64 0, .slice none 0 0, .slice none 0 0, .slice none 0 0, .slice none 0 0] 33)
  have D := Blk.new (w.alloc (.cells #[.bool x.below, .slice asz x.size.length csz, .slice ai x.iss.length ci, .slice aj x.sub.length cj, .int .i64 x.t0, .int .i64 x.t1, .slice ao x.ao.length co, .slice ap x.ap.length cp, .slice ak x.kn.length ck, .slice ae x.ex.length ce] 42)) 33 #[.bool false, .slice none 0 0, .slice none 0 0, .slice none 0 0, .int .i64 0, .int .i64 0, .slice none 0 0, .slice none 0 0, .slice none 0 0, .slice none 0 0]
  rw [World.size_alloc, ← hz] at D
  rw [← hz] at B
  have hs0 : w.heap.size + 2 = ((w.alloc (.cells #[.bool x.below, .slice asz x.size.length csz, .slice ai x.iss.length ci, .slice aj x.sub.length cj, .int .i64 x.t0, .int .i64 x.t1, .slice ao x.ao.length co, .slice ap x.ap.length cp, .slice ak x.kn.length ck, .slice ae x.ex.length ce] 42)).alloc (.cells #[.bool false, .slice none 0 0, .slice none 0 0, .slice none 0 0, .int .i64 0, .int .i64 0, .slice none 0 0, .slice none 0 0, .slice none 0 0, .slice none 0 0] 33)).heap.size := by rw [World.size_alloc, World.size_alloc]
  have HFB := Lib.hid Fb
  have H1 := Lib.hid (fun W (F : Fr (fun _ => False) wb W) => lawNumOf_any x.below _ x.size wb W hs F)
  have H2 := Lib.hid (fun W (F : Fr (fun _ => False) wb W) => lawOfK_any _ x.iss wb W hni F hi.1 hi.2)
  have H3 := Lib.hid (fun W (F : Fr (fun _ => False) wb W) => lawOfK_any _ x.sub wb W hnj F hj.1 hj.2)
  have H4 := Lib.hid (fun W (F : Fr (fun _ => False) wb W) => lawPubOf_any _ _ _ x.ao x.ap x.kn wb W ⟨ho, hp, hk⟩ F)
  have H5 := Lib.hid (fun W (F : Fr (fun _ => False) wb W) => lawExtAll_any _ x.ex wb W hx F he)
  have HF00 := Lib.hid F0
  clear hz Fb hs hni hnj ho hp hk hx F0 hi hj he
  go_enter Tryz.func8, Tryz.ntmps8
  go_upto_region 1 with fail
  rw [← HZ.out]
  have HS0 := Lib.hid hs0
  clear hs0
  generalize ((w.alloc (.cells #[.bool x.below, .slice asz x.size.length csz, .slice ai x.iss.length ci, .slice aj x.sub.length cj, .int .i64 x.t0, .int .i64 x.t1, .slice ao x.ao.length co, .slice ap x.ap.length cp, .slice ak x.kn.length ck, .slice ae x.ex.length ce] 42)).alloc (.cells #[.bool false, .slice none 0 0, .slice none 0 0, .slice none 0 0, .int .i64 0, .int .i64 0, .slice none 0 0, .slice none 0 0, .slice none 0 0, .slice none 0 0] 33)) = w0 at *
  have HF0 := Lib.hid (show Fr (fun _ => False) w w0.drew from HF00.out.drew)
  replace B := B.drew
  replace D := D.drew
  have G : Fr (fun _ => False) w0.drew w0.drew := Fr.refl _
  go_region_held3 (fun w' => ∀ j, w'.cell? ⟨z, j, none⟩ = (#[.bool x.below, .slice asz x.size.length csz, .slice ai x.iss.length ci, .slice aj x.sub.length cj, .int .i64 x.t0, .int .i64 x.t1, .slice ao x.ao.length co, .slice ap x.ap.length cp, .slice ak x.kn.length ck, .slice ae x.ex.length ce] : Array Value)[j]?) (first | with_reducible exact B.cell | with_reducible exact B5.cell) (first
    | (go_at_call 20; with_reducible refine (H1.out _ (HFB.out.trans (HF0.out.trans G))).mono ?_; rintro e w' ⟨⟨a1, c1, rfl, hq⟩, F⟩; have hsz := G.size; have k1 := hq.weaken (K' := (fun k => wb.heap.size ≤ k ∧ k < w.heap.size + 2)) (fun k hk => ⟨hk.1, by have := HS0.out; have : w0.drew.heap.size = w0.heap.size := rfl; omega⟩); (try replace k2 := k2.old F); (try replace k3 := k3.old F); (try replace k4 := k4.old F); (try replace k5 := k5.old F); replace B := B.fr F (fun h => h); replace D := D.fr F (fun h => h); replace G := G.trans F; clear hq F H1)
    | (go_at_call 21; with_reducible refine (H2.out _ (HFB.out.trans (HF0.out.trans G))).mono ?_; rintro e w' ⟨⟨a2, c2, rfl, hq⟩, F⟩; have hsz := G.size; have k2 := hq.kept (fun k => wb.heap.size ≤ k ∧ k < w.heap.size + 2) (fun k hk => by have := HS0.out; have : w0.drew.heap.size = w0.heap.size := rfl; exact ⟨⟨hk.1, by omega⟩, by omega⟩); (try replace k1 := k1.old F); (try replace k3 := k3.old F); (try replace k4 := k4.old F); (try replace k5 := k5.old F); replace B := B.fr F (fun h => h); replace D := D.fr F (fun h => h); replace G := G.trans F; clear hq F H2)
    | (go_at_call 21; with_reducible refine (H3.out _ (HFB.out.trans (HF0.out.trans G))).mono ?_; rintro e w' ⟨⟨a3, c3, rfl, hq⟩, F⟩; have hsz := G.size; have k3 := hq.kept (fun k => wb.heap.size ≤ k ∧ k < w.heap.size + 2) (fun k hk => by have := HS0.out; have : w0.drew.heap.size = w0.heap.size := rfl; exact ⟨⟨hk.1, by omega⟩, by omega⟩); (try replace k1 := k1.old F); (try replace k2 := k2.old F); (try replace k4 := k4.old F); (try replace k5 := k5.old F); replace B := B.fr F (fun h => h); replace D := D.fr F (fun h => h); replace G := G.trans F; clear hq F H3)
    | (go_at_call 22; with_reducible refine (H4.out _ (HFB.out.trans (HF0.out.trans G))).mono ?_; rintro e w' ⟨⟨a4, c4, a5, c5, a6, c6, rfl, hq⟩, F⟩; have hsz := G.size; have k4 := hq.weaken (K' := (fun k => wb.heap.size ≤ k ∧ k < w.heap.size + 2)) (fun k hk => ⟨hk.1, by have := HS0.out; have : w0.drew.heap.size = w0.heap.size := rfl; omega⟩); (try replace k1 := k1.old F); (try replace k2 := k2.old F); (try replace k3 := k3.old F); (try replace k5 := k5.old F); replace B := B.fr F (fun h => h); replace D := D.fr F (fun h => h); replace G := G.trans F; clear hq F H4)
    | (go_at_call 23; with_reducible refine (H5.out _ (HFB.out.trans (HF0.out.trans G))).mono ?_; rintro e w' ⟨⟨a7, c7, rfl, hq⟩, F⟩; have hsz := G.size; have k5 := hq.weaken (K' := (fun k => wb.heap.size ≤ k ∧ k < w.heap.size + 2)) (fun k hk => ⟨hk.1, by have := HS0.out; have : w0.drew.heap.size = w0.heap.size := rfl; omega⟩); (try replace k1 := k1.old F); (try replace k2 := k2.old F); (try replace k3 := k3.old F); (try replace k4 := k4.old F); replace B := B.fr F (fun h => h); replace D := D.fr F (fun h => h); replace G := G.trans F; clear hq F H5; have d0 := D.cell 0; have f0 := D.frozen 0; have d1 := D.cell 1; have f1 := D.frozen 1; have d2 := D.cell 2; have f2 := D.frozen 2; have d3 := D.cell 3; have f3 := D.frozen 3; have d4 := D.cell 4; have f4 := D.frozen 4; have d5 := D.cell 5; have f5 := D.frozen 5; have d6 := D.cell 6; have f6 := D.frozen 6; have d7 := D.cell 7; have f7 := D.frozen 7; have d8 := D.cell 8; have f8 := D.frozen 8; have d9 := D.cell 9; have f9 := D.frozen 9; have D5 := putL_all (Z := [.bool false, .slice none 0 0, .slice none 0 0, .slice none 0 0, .int .i64 0, .int .i64 0, .slice none 0 0, .slice none 0 0, .slice none 0 0, .slice none 0 0]) D (l := [.bool x.below, .slice a1 x.size.length c1, .slice a2 x.iss.length c2, .slice a3 x.sub.length c3, .int .i64 x.t0, .int .i64 x.t1, .slice a4 x.ao.length c4, .slice a5 x.ap.length c5, .slice a6 x.kn.length c6, .slice a7 x.ex.length c7]) rfl; simp only [putL] at D5; have B5 := B.fr D5.2 (by omega); simp only [List.getElem?_toArray, List.getElem?_cons_succ, List.getElem?_cons_zero] at d0 d1 d2 d3 d4 d5 d6 d7 d8 d9))
  all_goals
    have k := (show Kept (fun W => CertIn W x (.slice a1 x.size.length c1) (.slice a2 x.iss.length c2) (.slice a3 x.sub.length c3) (.slice a4 x.ao.length c4) (.slice a5 x.ap.length c5) (.slice a6 x.kn.length c6) (.slice a7 x.ex.length c7)) (fun k => wb.heap.size ≤ k ∧ k < w.heap.size + 2) _ from fun W f => ⟨k1 W f, k2 W f, k3 W f, (k4 W f).1, (k4 W f).2.1, (k4 W f).2.2, k5 W f⟩)
    have hsb := HFB.out.size
    have HK := Lib.hid (k.step (K' := (fun k => wb.heap.size ≤ k ∧ k < w.heap.size)) D5.2 (fun k hk e => by have := HZ.out; omega) (fun k hk => .inl (by omega)))
    have HF := Lib.hid ((HF0.out.trans G).trans' D5.2 (fun i hi e => by have := HZ.out; omega))
    have n0 := D5.1.cell 0
    have n1 := D5.1.cell 1
    have n2 := D5.1.cell 2
    have n3 := D5.1.cell 3
    have n4 := D5.1.cell 4
    have n5 := D5.1.cell 5
    have n6 := D5.1.cell 6
    have n7 := D5.1.cell 7
    have n8 := D5.1.cell 8
    have n9 := D5.1.cell 9
    simp only [List.getElem?_toArray, List.getElem?_cons_succ, List.getElem?_cons_zero] at n0 n1 n2 n3 n4 n5 n6 n7 n8 n9
    clear k k1 k2 k3 k4 k5 B D B5 D5 G
    go_wp2_with fail
    exact bodyPost_ret (v := .agg #[.bool x.below, .slice a1 x.size.length c1, .slice a2 x.iss.length c2, .slice a3 x.sub.length c3, .int .i64 x.t0, .int .i64 x.t1, .slice a4 x.ao.length c4, .slice a5 x.ap.length c5, .slice a6 x.kn.length c6, .slice a7 x.ex.length c7]) (by simp [results, Tryz.results8, go_sem, n0, n1, n2, n3, n4, n5, n6, n7, n8, n9]) rfl ⟨⟨a1, c1, a2, c2, a3, c3, a4, c4, a5, c5, a6, c6, a7, c7, rfl, HK.out⟩, HF.out⟩
theorem issued_any (x y : CertT) (vs vi vj va vp vk ve us ui uj ua up uk ue : Value) (w : World) (h : CertIn w x vs vi vj va vp vk ve) (hy : CertIn w y us ui uj ua up uk ue) (hf : ∀ r ∈ x.iss, fewB r) (hfy : ∀ r ∈ y.sub, fewB r) (hE : Env w) :
    Calls Tryz.prog 6 #[.agg #[.bool x.below, vs, vi, vj, .int .i64 x.t0, .int .i64 x.t1, va, vp, vk, ve], .agg #[.bool y.below, us, ui, uj, .int .i64 y.t0, .int .i64 y.t1, ua, up, uk, ue]] w fun e w' => e = .returned (.bool (nameSameS x.iss y.sub)) ∧ Fr (fun _ => False) w w' := by
  obtain ⟨h1, h2, h3, h4, h5, h6, h7⟩ := h
  obtain ⟨xa1, xc1, rfl, -⟩ := Vals.form h1
  obtain ⟨xa2, xc2, rfl⟩ := NameAt.shape h2
  obtain ⟨xa3, xc3, rfl⟩ := NameAt.shape h3
  obtain ⟨xa4, xc4, rfl, -⟩ := Ints.form h4
  obtain ⟨xa5, xc5, rfl, -⟩ := Vals.form h5
  obtain ⟨xa6, xc6, rfl, -⟩ := Vals.form h6
  have h8 := h7
  obtain ⟨xa7, xc7, rfl, -⟩ := h8
  obtain ⟨g1, g2, g3, g4, g5, g6, g7⟩ := hy
  obtain ⟨ya1, yc1, rfl, -⟩ := Vals.form g1
  obtain ⟨ya2, yc2, rfl⟩ := NameAt.shape g2
  obtain ⟨ya3, yc3, rfl⟩ := NameAt.shape g3
  obtain ⟨ya4, yc4, rfl, -⟩ := Ints.form g4
  obtain ⟨ya5, yc5, rfl, -⟩ := Vals.form g5
  obtain ⟨ya6, yc6, rfl, -⟩ := Vals.form g6
  have g8 := g7
  obtain ⟨ya7, yc7, rfl, -⟩ := g8
  obtain ⟨z, hz⟩ : ∃ z, z = w.heap.size := ⟨_, rfl⟩
  have HZ := Lib.hid hz
  have F0 : Fr (fun _ => False) w ((w.alloc (.cells #[.bool x.below, .slice xa1 x.size.length xc1, .slice xa2 x.iss.length xc2, .slice xa3 x.sub.length xc3, .int .i64 x.t0, .int .i64 x.t1, .slice xa4 x.ao.length xc4, .slice xa5 x.ap.length xc5, .slice xa6 x.kn.length xc6, .slice xa7 x.ex.length xc7] 42)).alloc (.cells #[.bool y.below, .slice ya1 y.size.length yc1, .slice ya2 y.iss.length yc2, .slice ya3 y.sub.length yc3, .int .i64 y.t0, .int .i64 y.t1, .slice ya4 y.ao.length yc4, .slice ya5 y.ap.length yc5, .slice ya6 y.kn.length yc6, .slice ya7 y.ex.length yc7] 42)) := ((Fr.refl w).alloc _).alloc _
  have B := (Blk.new w 42 #[.bool x.below, .slice xa1 x.size.length xc1, .slice xa2 x.iss.length xc2, .slice xa3 x.sub.length xc3, .int .i64 x.t0, .int .i64 x.t1, .slice xa4 x.ao.length xc4, .slice xa5 x.ap.length xc5, .slice xa6 x.kn.length xc6, .slice xa7 x.ex.length xc7]).alloc (.cells #[.bool y.below, .slice ya1 y.size.length yc1, .slice ya2 y.iss.length yc2, .slice ya3 y.sub.length yc3, .int .i64 y.t0, .int .i64 y.t1, .slice ya4 y.ao.length yc4, .slice ya5 y.ap.length yc5, .slice ya6 y.kn.length yc6, .slice ya7 y.ex.length yc7] 42)
  have D := Blk.new (w.alloc (.cells #[.bool x.below, .slice xa1 x.size.length xc1, .slice xa2 x.iss.length xc2, .slice xa3 x.sub.length xc3, .int .i64 x.t0, .int .i64 x.t1, .slice xa4 x.ao.length xc4, .slice xa5 x.ap.length xc5, .slice xa6 x.kn.length xc6, .slice xa7 x.ex.length xc7] 42)) 42 #[.bool y.below, .slice ya1 y.size.length yc1, .slice ya2 y.iss.length yc2, .slice ya3 y.sub.length yc3, .int .i64 y.t0, .int .i64 y.t1, .slice ya4 y.ao.length yc4, .slice ya5 y.ap.length yc5, .slice ya6 y.kn.length yc6, .slice ya7 y.ex.length yc7]
  rw [World.size_alloc, ← hz] at D
  rw [← hz] at B
  have HO := Lib.hid (nameSame_any _ _ x.iss y.sub _ (h2.old F0) (g3.old F0) hf hfy (hE.old F0))
  have HF0 := Lib.hid F0
  clear hz F0 hE h1 h2 h3 h4 h5 h6 h7 g1 g2 g3 g4 g5 g6 g7
  go_enter Tryz.func6, Tryz.ntmps6
  go_upto_region 1 with fail
  rw [← HZ.out]
  generalize ((w.alloc (.cells #[.bool x.below, .slice xa1 x.size.length xc1, .slice xa2 x.iss.length xc2, .slice xa3 x.sub.length xc3, .int .i64 x.t0, .int .i64 x.t1, .slice xa4 x.ao.length xc4, .slice xa5 x.ap.length xc5, .slice xa6 x.kn.length xc6, .slice xa7 x.ex.length xc7] 42)).alloc (.cells #[.bool y.below, .slice ya1 y.size.length yc1, .slice ya2 y.iss.length yc2, .slice ya3 y.sub.length yc3, .int .i64 y.t0, .int .i64 y.t1, .slice ya4 y.ao.length yc4, .slice ya5 y.ap.length yc5, .slice ya6 y.kn.length yc6, .slice ya7 y.ex.length yc7] 42)) = w0 at *
  have e1 := B.cell 2
  have e2 := D.cell 3
  simp only [List.getElem?_toArray, List.getElem?_cons_succ, List.getElem?_cons_zero] at e1 e2
  clear B D
  go_wp2_with fail
  refine HO.out.mono ?_
  rintro e w1 ⟨rfl, F1⟩
  clear HO e1 e2
  go_wp2_with fail
  go_ret
  exact ⟨rfl, HF0.out.trans F1⟩
end Go.Proofs.YthjcoolefboodaaGreatDoor
