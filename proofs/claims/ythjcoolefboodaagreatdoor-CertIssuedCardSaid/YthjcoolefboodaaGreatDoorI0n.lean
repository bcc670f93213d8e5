/-
  Merged by program: XCeT2 XCeKn XR03S.
-/
import Derived.Test.YthjcoolefboodaaGreatDoorI0m
import Derived.Test.YthjcoolefboodaaGreatDoorI0l
import Derived.Test.YthjcoolefboodaaGreatDoorI0d
import Derived.Test.YthjcoolefboodaaGreatDoorI0j
import Derived.Test.YthjcoolefboodaaGreatDoorI0k
import Derived.Test.YthjcoolefboodaaGreatDoorI0h
import Derived.Test.YthjcoolefboodaaGreatDoorI0a
import Derived.Lib.ItoaNum
namespace Go.Proofs.YthjcoolefboodaaGreatDoor
open Go Go.RowKit Go.Q
set_option linter.unusedSimpArgs false
set_option maxRecDepth 100000 in
set_option maxHeartbeats 8000000 in
theorem lawCertTo_any (u : Value) (x : CertT) (wb w : World) (h : CertAt wb u x) (Fb : Fr (fun _ => False) wb w) :
    Calls Tryz.prog 4 #[u] w fun e w' => (∃ a1 c1 a2 c2 a3 c3 a4 c4 a5 c5 a6 c6 a7 c7, e = .returned (.agg #[.bool x.below, .slice a1 (x.size.take 100).length c1, .slice a2 (cutName (x.iss.take 5)).length c2, .slice a3 (cutName (x.sub.take 5)).length c3, .int .i64 x.t0, .int .i64 x.t1, .slice a4 (x.ao.take 40).length c4, .slice a5 (x.ap.take 200).length c5, .slice a6 (x.kn.take 100).length c6, .slice a7 (fewExts (x.ex.take 10)).length c7]) ∧ Kept (fun W => CertIn W (cutCert x) (.slice a1 (x.size.take 100).length c1) (.slice a2 (cutName (x.iss.take 5)).length c2) (.slice a3 (cutName (x.sub.take 5)).length c3) (.slice a4 (x.ao.take 40).length c4) (.slice a5 (x.ap.take 200).length c5) (.slice a6 (x.kn.take 100).length c6) (.slice a7 (fewExts (x.ex.take 10)).length c7)) (fun k => wb.heap.size ≤ k ∧ k < w.heap.size) w') ∧ Fr (fun _ => False) w w' := by
  obtain ⟨vs, vi, vj, va, vp, vk, ve, rfl, hs, hni, hnj, ho, hp, hk, hx⟩ := h
  obtain ⟨asz, csz, rfl, hc1, hm1, -⟩ := Vals.form hs
  obtain ⟨ai, ci, rfl, hc2, hm2⟩ := NameAt.form hni
  obtain ⟨aj, cj, rfl, hc3, hm3⟩ := NameAt.form hnj
  obtain ⟨ao, co, rfl, -⟩ := Ints.form ho
  obtain ⟨ap, cp, rfl, -⟩ := Vals.form hp
  obtain ⟨ak, ck, rfl, -⟩ := Vals.form hk
  have hx0 := hx
  obtain ⟨ae, ce, rfl, hc4, hm4, -⟩ := hx0
  unfold maxLen at hm1 hm2 hm3 hm4
  obtain ⟨ms, hms⟩ : ∃ m : Nat, m = min x.size.length 100 := ⟨_, rfl⟩
  have cms : min (x.size.length : Int) 100 = (ms : Int) := by omega
  have gms : (ms : Int) ≤ (csz : Int) := by omega
  have pms : (0 : Int) ≤ (ms : Int) := by omega
  obtain ⟨mi, hmi⟩ : ∃ m : Nat, m = min x.iss.length 5 := ⟨_, rfl⟩
  have cmi : min (x.iss.length : Int) 5 = (mi : Int) := by omega
  have gmi : (mi : Int) ≤ (ci : Int) := by omega
  have pmi : (0 : Int) ≤ (mi : Int) := by omega
  obtain ⟨mj, hmj⟩ : ∃ m : Nat, m = min x.sub.length 5 := ⟨_, rfl⟩
  have cmj : min (x.sub.length : Int) 5 = (mj : Int) := by omega
  have gmj : (mj : Int) ≤ (cj : Int) := by omega
  have pmj : (0 : Int) ≤ (mj : Int) := by omega
  obtain ⟨me, hme⟩ : ∃ m : Nat, m = min x.ex.length 10 := ⟨_, rfl⟩
  have cme : min (x.ex.length : Int) 10 = (me : Int) := by omega
  have gme : (me : Int) ≤ (ce : Int) := by omega
  have pme : (0 : Int) ≤ (me : Int) := by omega
  obtain ⟨z, hz⟩ : ∃ z, z = w.heap.size := ⟨_, rfl⟩
  have HZ := Lib.hid hz
  have F0 : Fr (fun _ => False) w ((w.alloc (.cells #[.bool x.below, .slice asz x.size.length csz, .slice ai x.iss.length ci, .slice aj x.sub.length cj, .int .i64 x.t0, .int .i64 x.t1, .slice ao x.ao.length co, .slice ap x.ap.length cp, .slice ak x.kn.length ck, .slice ae x.ex.length ce] 33)).alloc (.cells #[.bool false, .slice none 0 0, .slice none 0 0, .slice none 0 0, .int .i64 0, .int .i64 0, .slice none 0 0, .slice none 0 0, .slice none 0 0, .slice none 0 0] 42)) := ((Fr.refl w).alloc _).alloc _
  have B := (Blk.new w 33 #[.bool x.below, .slice asz x.size.length csz, .slice ai x.iss.length ci, .slice aj x.sub.length cj, .int .i64 x.t0, .int .i64 x.t1, .slice ao x.ao.length co, .slice ap x.ap.length cp, .slice ak x.kn.length ck, .slice ae x.ex.length ce]).alloc (.cells #[.bool false, .slice none 0 0, .slice none 0 0, .slice none 0 0, .int .i64 0, .int .i64 0, .slice none 0 0, .slice none 0 0, .slice none 0 0, .slice none 0 0] 42)
  have D := Blk.new (w.alloc (.cells #[.bool x.below, .slice asz x.size.length csz, .slice ai x.iss.length ci, .slice aj x.sub.length cj, .int .i64 x.t0, .int .i64 x.t1, .slice ao x.ao.length co, .slice ap x.ap.length cp, .slice ak x.kn.length ck, .slice ae x.ex.length ce] 33)) 42 #[.bool false, .slice none 0 0, .slice none 0 0, .slice none 0 0, .int .i64 0, .int .i64 0, .slice none 0 0, .slice none 0 0, .slice none 0 0, .slice none 0 0]
  rw [World.size_alloc, ← hz] at D
  rw [← hz] at B
  have hs0 : w.heap.size + 2 = ((w.alloc (.cells #[.bool x.below, .slice asz x.size.length csz, .slice ai x.iss.length ci, .slice aj x.sub.length cj, .int .i64 x.t0, .int .i64 x.t1, .slice ao x.ao.length co, .slice ap x.ap.length cp, .slice ak x.kn.length ck, .slice ae x.ex.length ce] 33)).alloc (.cells #[.bool false, .slice none 0 0, .slice none 0 0, .slice none 0 0, .int .i64 0, .int .i64 0, .slice none 0 0, .slice none 0 0, .slice none 0 0, .slice none 0 0] 42)).heap.size := by rw [World.size_alloc, World.size_alloc]
  have HFB := Lib.hid Fb
  have H1 := Lib.hid (fun W (F : Fr (fun _ => False) wb W) => lawNumTo_any x.below _ (x.size.take 100) wb W (Vals.cut hs 100 ms hms) F)
  have H2 := Lib.hid (fun W (F : Fr (fun _ => False) wb W) => lawToK_any _ (x.iss.take 5) wb W (NameAt.cut hni 5 mi hmi) F)
  have H3 := Lib.hid (fun W (F : Fr (fun _ => False) wb W) => lawToK_any _ (x.sub.take 5) wb W (NameAt.cut hnj 5 mj hmj) F)
  have H4 := Lib.hid (fun W (F : Fr (fun _ => False) wb W) => lawPubTo_any _ _ _ x.ao x.ap x.kn wb W ⟨ho, hp, hk⟩ F)
  have H5 := Lib.hid (fun W (F : Fr (fun _ => False) wb W) => lawExtFew_any _ (x.ex.take 10) wb W (Exts.cut hx 10 me hme) F)
  obtain ⟨s1, hs1⟩ : ∃ y, y = x.size.take 100 := ⟨_, rfl⟩
  obtain ⟨u1, hn1⟩ : ∃ y, y = cutName (x.iss.take 5) := ⟨_, rfl⟩
  obtain ⟨u2, hn2⟩ : ∃ y, y = cutName (x.sub.take 5) := ⟨_, rfl⟩
  obtain ⟨o1, ho1⟩ : ∃ y, y = x.ao.take 40 := ⟨_, rfl⟩
  obtain ⟨p1, hp1⟩ : ∃ y, y = x.ap.take 200 := ⟨_, rfl⟩
  obtain ⟨k0, hk0⟩ : ∃ y, y = x.kn.take 100 := ⟨_, rfl⟩
  obtain ⟨x1, hx1⟩ : ∃ y, y = fewExts (x.ex.take 10) := ⟨_, rfl⟩
  have HCC : cutCert x = ⟨x.below, s1, u1, u2, x.t0, x.t1, o1, p1, k0, x1⟩ := by rw [hs1, hn1, hn2, ho1, hp1, hk0, hx1]; rfl
  rw [HCC]
  rw [← hs1] at H1 ⊢
  rw [← hn1] at H2 ⊢
  rw [← hn2] at H3 ⊢
  rw [← ho1, ← hp1, ← hk0] at H4 ⊢
  rw [← hx1] at H5 ⊢
  clear HCC hs1 hn1 hn2 ho1 hp1 hk0 hx1
  have HF00 := Lib.hid F0
  clear hz Fb hs hni hnj ho hp hk hx F0 hms hmi hmj hme hc1 hc2 hc3 hc4
  go_enter Tryz.func4, Tryz.ntmps4
  go_upto_region 1 with fail
  rw [← HZ.out]
  generalize ((w.alloc (.cells #[.bool x.below, .slice asz x.size.length csz, .slice ai x.iss.length ci, .slice aj x.sub.length cj, .int .i64 x.t0, .int .i64 x.t1, .slice ao x.ao.length co, .slice ap x.ap.length cp, .slice ak x.kn.length ck, .slice ae x.ex.length ce] 33)).alloc (.cells #[.bool false, .slice none 0 0, .slice none 0 0, .slice none 0 0, .int .i64 0, .int .i64 0, .slice none 0 0, .slice none 0 0, .slice none 0 0, .slice none 0 0] 42)) = w0 at *
  have e0 := B.cell 0
  have e1 := B.cell 1
  have oo0 := alloc_old w0 (.cells #[.bool false, .slice none 0 0] 24) z 0 B.lt
  have oo1 := alloc_old w0 (.cells #[.bool false, .slice none 0 0] 24) z 1 B.lt
  simp only [List.getElem?_toArray, List.getElem?_cons_succ, List.getElem?_cons_zero] at e0 e1
  have hz0 : w0.heap.size = z + 2 := by rw [← hs0, ← HZ.out]
  go_upto_region 3 with fail
  have N := Blk.new w0 24 #[.bool x.below, .slice asz ms csz]
  rw [hz0] at N
  replace B := B.alloc (.cells #[.bool x.below, .slice asz ms csz] 24)
  replace D := D.alloc (.cells #[.bool x.below, .slice asz ms csz] 24)
  have HF0 := Lib.hid (HF00.out.alloc (.cells #[.bool x.below, .slice asz ms csz] 24)).drew
  have HS0 := Lib.hid (show w.heap.size + 3 = (w0.alloc (.cells #[.bool x.below, .slice asz ms csz] 24)).drew.heap.size from by
    have : (w0.alloc (.cells #[.bool x.below, .slice asz ms csz] 24)).drew.heap.size = w0.heap.size + 1 := World.size_alloc _ _
    omega)
  clear oo0 oo1 e0 e1 hs0 hz0 HF00
  generalize w0.alloc (.cells #[.bool x.below, .slice asz ms csz] 24) = w1 at *
  replace B := B.drew
  replace D := D.drew
  replace N := N.drew
  have G : Fr (fun _ => False) w1.drew w1.drew := Fr.refl _
  refine wp_region_noPanic ?_
  refine wp_region_held_drew (S := (fun w' => (∀ j, w'.cell? ⟨z, j, none⟩ = (#[.bool x.below, .slice asz x.size.length csz, .slice ai x.iss.length ci, .slice aj x.sub.length cj, .int .i64 x.t0, .int .i64 x.t1, .slice ao x.ao.length co, .slice ap x.ap.length cp, .slice ak x.kn.length ck, .slice ae x.ex.length ce] : Array Value)[j]?) ∧ ∀ j, w'.cell? ⟨z + 2, j, none⟩ = (#[.bool x.below, .slice asz ms csz] : Array Value)[j]?)) (by kernel_rfl) ?_ (fun hHeld => ?_)
  · exact ⟨B.cell, N.cell⟩
  refine wpAnyH_take (i := 0) (oi := _) (v := ?_) rfl (by kernel_rfl) (by kernel_rfl) (by kernel_rfl) (fun _ _ _ h => h) (Or.inl ⟨by rfl, ?_⟩) (by assumption) ?_
  rotate_left
  · (intro W hSw; (try dsimp only at hSw); go_simp; try with_reducible rfl)
  (try simp only [Act.put, List.setIfInBounds_toArray, List.set_cons_zero, List.set_cons_succ])
  refine wpAnyH_take (i := 2) (oi := _) (v := ?_) rfl (by kernel_rfl) (by kernel_rfl) (by kernel_rfl) (fun _ _ _ h => h) (Or.inl ⟨by rfl, ?_⟩) (by assumption) ?_
  rotate_left
  · (intro W hSw; (try dsimp only at hSw); go_simp; try with_reducible rfl)
  (try simp only [Act.put, List.setIfInBounds_toArray, List.set_cons_zero, List.set_cons_succ])
  refine wpAnyH_take (i := 3) (oi := _) (v := ?_) rfl (by kernel_rfl) (by kernel_rfl) (by kernel_rfl) (fun _ _ _ h => h) (Or.inl ⟨by rfl, ?_⟩) (by assumption) ?_
  rotate_left
  · (intro W hSw; (try dsimp only at hSw); go_simp; try with_reducible rfl)
  (try simp only [Act.put, List.setIfInBounds_toArray, List.set_cons_zero, List.set_cons_succ])
  refine wpAnyH_take (i := 4) (oi := _) (v := ?_) rfl (by kernel_rfl) (by kernel_rfl) (by kernel_rfl) (fun _ _ _ h => h) (Or.inl ⟨by rfl, ?_⟩) (by assumption) ?_
  rotate_left
  · (intro W hSw; (try dsimp only at hSw); go_simp; try with_reducible rfl)
  (try simp only [Act.put, List.setIfInBounds_toArray, List.set_cons_zero, List.set_cons_succ])
  refine wpAnyH_take (i := 5) (oi := _) (v := ?_) rfl (by kernel_rfl) (by kernel_rfl) (by kernel_rfl) (fun _ _ _ h => h) (Or.inl ⟨by rfl, ?_⟩) (by assumption) ?_
  rotate_left
  · (intro W hSw; (try dsimp only at hSw); go_simp; try with_reducible rfl)
  (try simp only [Act.put, List.setIfInBounds_toArray, List.set_cons_zero, List.set_cons_succ])
  refine wpAnyH_take (i := 6) (oi := _) (v := ?_) rfl (by kernel_rfl) (by kernel_rfl) (by kernel_rfl) (fun _ _ _ h => h) (Or.inl ⟨by rfl, ?_⟩) (by assumption) ?_
  rotate_left
  · (intro W hSw; (try dsimp only at hSw); go_simp; try with_reducible rfl)
  (try simp only [Act.put, List.setIfInBounds_toArray, List.set_cons_zero, List.set_cons_succ])
  refine wpAnyH_take (i := 7) (oi := _) (v := ?_) rfl (by kernel_rfl) (by kernel_rfl) (by kernel_rfl) (fun _ _ _ h => h) (Or.inl ⟨by rfl, ?_⟩) (by assumption) ?_
  rotate_left
  · (intro W hSw; (try dsimp only at hSw); go_simp; try with_reducible rfl)
  (try simp only [Act.put, List.setIfInBounds_toArray, List.set_cons_zero, List.set_cons_succ])
  refine wpAnyH_take (i := 8) (oi := _) (v := ?_) rfl (by kernel_rfl) (by kernel_rfl) (by kernel_rfl) (fun _ _ _ h => h) (Or.inl ⟨by rfl, ?_⟩) (by assumption) ?_
  rotate_left
  · (intro W hSw; (try dsimp only at hSw); go_simp; try with_reducible rfl)
  (try simp only [Act.put, List.setIfInBounds_toArray, List.set_cons_zero, List.set_cons_succ])
  refine wpAnyH_take (i := 10) (oi := _) (v := ?_) rfl (by kernel_rfl) (by kernel_rfl) (by kernel_rfl) (fun _ _ _ h => h) (Or.inl ⟨by rfl, ?_⟩) (by assumption) ?_
  rotate_left
  · (intro W hSw; (try dsimp only at hSw); go_simp; try with_reducible rfl)
  (try simp only [Act.put, List.setIfInBounds_toArray, List.set_cons_zero, List.set_cons_succ])
  refine wpAnyH_take (i := 11) (oi := _) (v := ?_) rfl (by kernel_rfl) (by kernel_rfl) (by kernel_rfl) (fun _ _ _ h => h) (Or.inl ⟨by rfl, ?_⟩) (by assumption) ?_
  rotate_left
  · (intro W hSw; (try dsimp only at hSw); go_simp; try with_reducible rfl)
  (try simp only [Act.put, List.setIfInBounds_toArray, List.set_cons_zero, List.set_cons_succ])
  refine wpAnyH_take (i := 12) (oi := _) (v := ?_) rfl (by kernel_rfl) (by kernel_rfl) (by kernel_rfl) (fun _ _ _ h => h) (Or.inl ⟨by rfl, ?_⟩) (by assumption) ?_
  rotate_left
  · (intro W hSw; (try dsimp only at hSw); go_simp; try with_reducible rfl)
  (try simp only [Act.put, List.setIfInBounds_toArray, List.set_cons_zero, List.set_cons_succ])
  refine wpAnyH_take (i := 13) (oi := _) (v := ?_) rfl (by kernel_rfl) (by kernel_rfl) (by kernel_rfl) (fun _ _ _ h => h) (Or.inl ⟨by rfl, ?_⟩) (by assumption) ?_
  rotate_left
  · (intro W hSw; (try dsimp only at hSw); go_simp; try with_reducible rfl)
  (try simp only [Act.put, List.setIfInBounds_toArray, List.set_cons_zero, List.set_cons_succ])
  refine wpAnyH_take (i := 14) (oi := _) (v := ?_) rfl (by kernel_rfl) (by kernel_rfl) (by kernel_rfl) (fun _ _ _ h => h) (Or.inl ⟨by rfl, ?_⟩) (by assumption) ?_
  rotate_left
  · (intro W hSw; (try dsimp only at hSw); go_simp; try with_reducible rfl)
  (try simp only [Act.put, List.setIfInBounds_toArray, List.set_cons_zero, List.set_cons_succ])
  refine wpAnyH_take (i := 15) (oi := _) (v := ?_) rfl (by kernel_rfl) (by kernel_rfl) (by kernel_rfl) (fun _ _ _ h => h) (Or.inl ⟨by rfl, ?_⟩) (by assumption) ?_
  rotate_left
  · (intro W hSw; (try dsimp only at hSw); go_simp; try with_reducible rfl)
  (try simp only [Act.put, List.setIfInBounds_toArray, List.set_cons_zero, List.set_cons_succ])
  refine wpAnyH_take (i := 16) (oi := _) (v := ?_) rfl (by kernel_rfl) (by kernel_rfl) (by kernel_rfl) (fun _ _ _ h => h) (Or.inl ⟨by rfl, ?_⟩) (by assumption) ?_
  rotate_left
  · (intro W hSw; (try dsimp only at hSw); go_simp; try with_reducible rfl)
  (try simp only [Act.put, List.setIfInBounds_toArray, List.set_cons_zero, List.set_cons_succ])
  refine wpAnyH_take (i := 18) (oi := _) (v := ?_) rfl (by kernel_rfl) (by kernel_rfl) (by kernel_rfl) (fun _ _ _ h => h) (Or.inl ⟨by rfl, ?_⟩) (by assumption) ?_
  rotate_left
  · (intro W hSw; (try dsimp only at hSw); go_simp; try with_reducible rfl)
  (try simp only [Act.put, List.setIfInBounds_toArray, List.set_cons_zero, List.set_cons_succ])
  refine wpAnyH_take (i := 19) (oi := _) (v := ?_) rfl (by kernel_rfl) (by kernel_rfl) (by kernel_rfl) (fun _ _ _ h => h) (Or.inl ⟨by rfl, ?_⟩) (by assumption) ?_
  rotate_left
  · (intro W hSw; (try dsimp only at hSw); go_simp; try with_reducible rfl)
  (try simp only [Act.put, List.setIfInBounds_toArray, List.set_cons_zero, List.set_cons_succ])
  refine wpAnyH_take (i := 20) (oi := _) (v := ?_) rfl (by kernel_rfl) (by kernel_rfl) (by kernel_rfl) (fun _ _ _ h => h) (Or.inl ⟨by rfl, ?_⟩) (by assumption) ?_
  rotate_left
  · (intro W hSw; (try dsimp only at hSw); go_simp; try with_reducible rfl)
  (try simp only [Act.put, List.setIfInBounds_toArray, List.set_cons_zero, List.set_cons_succ])
  refine wpAnyH_take (i := 21) (oi := _) (v := ?_) rfl (by kernel_rfl) (by kernel_rfl) (by kernel_rfl) (fun _ _ _ h => h) (Or.inl ⟨by rfl, ?_⟩) (by assumption) ?_
  rotate_left
  · (intro W hSw; (try dsimp only at hSw); go_simp; try with_reducible rfl)
  (try simp only [Act.put, List.setIfInBounds_toArray, List.set_cons_zero, List.set_cons_succ])
  refine wpAnyH_take (i := 22) (oi := _) (v := ?_) rfl (by kernel_rfl) (by kernel_rfl) (by kernel_rfl) (fun _ _ _ h => h) (Or.inl ⟨by rfl, ?_⟩) (by assumption) ?_
  rotate_left
  · (intro W hSw; (try dsimp only at hSw); go_simp; try with_reducible rfl)
  (try simp only [Act.put, List.setIfInBounds_toArray, List.set_cons_zero, List.set_cons_succ])
  refine wpAnyH_take (i := 23) (oi := _) (v := ?_) rfl (by kernel_rfl) (by kernel_rfl) (by kernel_rfl) (fun _ _ _ h => h) (Or.inl ⟨by rfl, ?_⟩) (by assumption) ?_
  rotate_left
  · (intro W hSw; (try dsimp only at hSw); go_simp; try with_reducible rfl)
  (try simp only [Act.put, List.setIfInBounds_toArray, List.set_cons_zero, List.set_cons_succ])
  refine wpAnyH_take (i := 25) (oi := _) (v := ?_) rfl (by kernel_rfl) (by kernel_rfl) (by kernel_rfl) (fun _ _ _ h => h) (Or.inl ⟨by rfl, ?_⟩) (by assumption) ?_
  rotate_left
  · (intro W hSw; (try dsimp only at hSw); go_simp; try with_reducible rfl)
  (try simp only [Act.put, List.setIfInBounds_toArray, List.set_cons_zero, List.set_cons_succ])
  refine wpAnyH_take (i := 26) (oi := _) (v := ?_) rfl (by kernel_rfl) (by kernel_rfl) (by kernel_rfl) (fun _ _ _ h => h) (Or.inl ⟨by rfl, ?_⟩) (by assumption) ?_
  rotate_left
  · (intro W hSw; (try dsimp only at hSw); go_simp; try with_reducible rfl)
  (try simp only [Act.put, List.setIfInBounds_toArray, List.set_cons_zero, List.set_cons_succ])
  refine wpAnyH_take (i := 27) (oi := _) (v := ?_) rfl (by kernel_rfl) (by kernel_rfl) (by kernel_rfl) (fun _ _ _ h => h) (Or.inl ⟨by rfl, ?_⟩) (by assumption) ?_
  rotate_left
  · (intro W hSw; (try dsimp only at hSw); go_simp; try with_reducible rfl)
  (try simp only [Act.put, List.setIfInBounds_toArray, List.set_cons_zero, List.set_cons_succ])
  refine wpAnyH_take (i := 28) (oi := _) (v := ?_) rfl (by kernel_rfl) (by kernel_rfl) (by kernel_rfl) (fun _ _ _ h => h) (Or.inl ⟨by rfl, ?_⟩) (by assumption) ?_
  rotate_left
  · (intro W hSw; (try dsimp only at hSw); go_simp; try with_reducible rfl)
  (try simp only [Act.put, List.setIfInBounds_toArray, List.set_cons_zero, List.set_cons_succ])
  refine wpAnyH_take (i := 29) (oi := _) (v := ?_) rfl (by kernel_rfl) (by kernel_rfl) (by kernel_rfl) (fun _ _ _ h => h) (Or.inl ⟨by rfl, ?_⟩) (by assumption) ?_
  rotate_left
  · (intro W hSw; (try dsimp only at hSw); go_simp; try with_reducible rfl)
  (try simp only [Act.put, List.setIfInBounds_toArray, List.set_cons_zero, List.set_cons_succ])
  refine wpAnyH_take (i := 30) (oi := _) (v := ?_) rfl (by kernel_rfl) (by kernel_rfl) (by kernel_rfl) (fun _ _ _ h => h) (Or.inl ⟨by rfl, ?_⟩) (by assumption) ?_
  rotate_left
  · (intro W hSw; (try dsimp only at hSw); go_simp; try with_reducible rfl)
  (try simp only [Act.put, List.setIfInBounds_toArray, List.set_cons_zero, List.set_cons_succ])
  refine wpAnyH_take (i := 31) (oi := _) (v := ?_) rfl (by kernel_rfl) (by kernel_rfl) (by kernel_rfl) (fun _ _ _ h => h) (Or.inl ⟨by rfl, ?_⟩) (by assumption) ?_
  rotate_left
  · (intro W hSw; (try dsimp only at hSw); go_simp; try with_reducible rfl)
  (try simp only [Act.put, List.setIfInBounds_toArray, List.set_cons_zero, List.set_cons_succ])
  refine wpAnyH_ready (rs := [1]) (by kernel_rfl) (by simp) ?_
  refine AllReadyH.cons (o := _) rfl (fun KK hKK => ?_) AllReadyH.nil
  go_simp
  (go_at_call 10; with_reducible refine (H1.out _ (HFB.out.trans (HF0.out.trans G))).mono ?_; rintro e w' ⟨⟨a1, c1, rfl, hq⟩, F⟩; have hsz := G.size; have k1 := hq.weaken (K' := (fun k => wb.heap.size ≤ k ∧ k < w.heap.size + 3)) (fun k hk => ⟨hk.1, by have := HS0.out; omega⟩); (try replace k2 := k2.old F); (try replace k3 := k3.old F); (try replace k4 := k4.old F); (try replace k5 := k5.old F); replace B := B.fr F (fun h => h); replace N := N.fr F (fun h => h); replace D := D.fr F (fun h => h); replace G := G.trans F; clear hq F H1; go_wp2_with fail)
  refine hKK.out _ _ ?_ (fun hHeld => ?_)
  · exact ⟨B.cell, N.cell⟩
  clear hKK KK
  (try simp only [Act.put, List.setIfInBounds_toArray, List.set_cons_zero, List.set_cons_succ])
  refine wpAnyH_ready (rs := [9]) (by kernel_rfl) (by simp) ?_
  refine AllReadyH.cons (o := _) rfl (fun KK hKK => ?_) AllReadyH.nil
  go_simp
  (go_at_call 11; with_reducible refine (H2.out _ (HFB.out.trans (HF0.out.trans G))).mono ?_; rintro e w' ⟨⟨a2, c2, rfl, hq⟩, F⟩; have hsz := G.size; have k2 := hq.kept (fun k => wb.heap.size ≤ k ∧ k < w.heap.size + 3) (fun k hk => by have := HS0.out; exact ⟨⟨hk.1, by omega⟩, by omega⟩); (try replace k1 := k1.old F); (try replace k3 := k3.old F); (try replace k4 := k4.old F); (try replace k5 := k5.old F); replace B := B.fr F (fun h => h); replace N := N.fr F (fun h => h); replace D := D.fr F (fun h => h); replace G := G.trans F; clear hq F H2; go_wp2_with fail)
  refine hKK.out _ _ ?_ (fun hHeld => ?_)
  · exact ⟨B.cell, N.cell⟩
  clear hKK KK
  (try simp only [Act.put, List.setIfInBounds_toArray, List.set_cons_zero, List.set_cons_succ])
  refine wpAnyH_ready (rs := [17]) (by kernel_rfl) (by simp) ?_
  refine AllReadyH.cons (o := _) rfl (fun KK hKK => ?_) AllReadyH.nil
  go_simp
  (go_at_call 11; with_reducible refine (H3.out _ (HFB.out.trans (HF0.out.trans G))).mono ?_; rintro e w' ⟨⟨a3, c3, rfl, hq⟩, F⟩; have hsz := G.size; have k3 := hq.kept (fun k => wb.heap.size ≤ k ∧ k < w.heap.size + 3) (fun k hk => by have := HS0.out; exact ⟨⟨hk.1, by omega⟩, by omega⟩); (try replace k1 := k1.old F); (try replace k2 := k2.old F); (try replace k4 := k4.old F); (try replace k5 := k5.old F); replace B := B.fr F (fun h => h); replace N := N.fr F (fun h => h); replace D := D.fr F (fun h => h); replace G := G.trans F; clear hq F H3; go_wp2_with fail)
  refine hKK.out _ _ ?_ (fun hHeld => ?_)
  · exact ⟨B.cell, N.cell⟩
  clear hKK KK
  (try simp only [Act.put, List.setIfInBounds_toArray, List.set_cons_zero, List.set_cons_succ])
  refine wpAnyH_ready (rs := [24]) (by kernel_rfl) (by simp) ?_
  refine AllReadyH.cons (o := _) rfl (fun KK hKK => ?_) AllReadyH.nil
  go_simp
  (go_at_call 12; with_reducible refine (H4.out _ (HFB.out.trans (HF0.out.trans G))).mono ?_; rintro e w' ⟨⟨a4, c4, a5, c5, a6, c6, rfl, hq⟩, F⟩; have hsz := G.size; have k4 := hq.weaken (K' := (fun k => wb.heap.size ≤ k ∧ k < w.heap.size + 3)) (fun k hk => ⟨hk.1, by have := HS0.out; omega⟩); (try replace k1 := k1.old F); (try replace k2 := k2.old F); (try replace k3 := k3.old F); (try replace k5 := k5.old F); replace B := B.fr F (fun h => h); replace N := N.fr F (fun h => h); replace D := D.fr F (fun h => h); replace G := G.trans F; clear hq F H4; go_wp2_with fail)
  refine hKK.out _ _ ?_ (fun hHeld => ?_)
  · exact ⟨B.cell, N.cell⟩
  clear hKK KK
  (try simp only [Act.put, List.setIfInBounds_toArray, List.set_cons_zero, List.set_cons_succ])
  refine wpAnyH_ready (rs := [32]) (by kernel_rfl) (by simp) ?_
  refine AllReadyH.cons (o := _) rfl (fun KK hKK => ?_) AllReadyH.nil
  go_simp
  (go_at_call 13; with_reducible refine (H5.out _ (HFB.out.trans (HF0.out.trans G))).mono ?_; rintro e w' ⟨⟨a7, c7, rfl, hq⟩, F⟩; have hsz := G.size; have k5 := hq.weaken (K' := (fun k => wb.heap.size ≤ k ∧ k < w.heap.size + 3)) (fun k hk => ⟨hk.1, by have := HS0.out; omega⟩); (try replace k1 := k1.old F); (try replace k2 := k2.old F); (try replace k3 := k3.old F); (try replace k4 := k4.old F); replace B := B.fr F (fun h => h); replace N := N.fr F (fun h => h); replace D := D.fr F (fun h => h); replace G := G.trans F; clear hq F H5; have d0 := D.cell 0; have f0 := D.frozen 0; have d1 := D.cell 1; have f1 := D.frozen 1; have d2 := D.cell 2; have f2 := D.frozen 2; have d3 := D.cell 3; have f3 := D.frozen 3; have d4 := D.cell 4; have f4 := D.frozen 4; have d5 := D.cell 5; have f5 := D.frozen 5; have d6 := D.cell 6; have f6 := D.frozen 6; have d7 := D.cell 7; have f7 := D.frozen 7; have d8 := D.cell 8; have f8 := D.frozen 8; have d9 := D.cell 9; have f9 := D.frozen 9; have D5 := putL_all (Z := [.bool false, .slice none 0 0, .slice none 0 0, .slice none 0 0, .int .i64 0, .int .i64 0, .slice none 0 0, .slice none 0 0, .slice none 0 0, .slice none 0 0]) D (l := [.bool x.below, .slice a1 s1.length c1, .slice a2 u1.length c2, .slice a3 u2.length c3, .int .i64 x.t0, .int .i64 x.t1, .slice a4 o1.length c4, .slice a5 p1.length c5, .slice a6 k0.length c6, .slice a7 x1.length c7]) rfl; simp only [putL] at D5; have B5 := B.fr D5.2 (by omega); have N5 := N.fr D5.2 (by omega); simp only [List.getElem?_toArray, List.getElem?_cons_succ, List.getElem?_cons_zero] at d0 d1 d2 d3 d4 d5 d6 d7 d8 d9; go_wp2_with fail)
  refine hKK.out _ _ ?_ (fun hHeld => ?_)
  · exact ⟨B.cell, N.cell⟩
  clear hKK KK
  (try simp only [Act.put, List.setIfInBounds_toArray, List.set_cons_zero, List.set_cons_succ])
  refine wpAnyH_take (i := 33) (oi := _) (v := ?_) rfl (by kernel_rfl) (by kernel_rfl) (by kernel_rfl) (fun _ _ _ h => h) (Or.inl ⟨by rfl, ?_⟩) (by assumption) ?_
  rotate_left
  · (intro W hSw; (try dsimp only at hSw); go_simp; try with_reducible rfl)
  (try simp only [Act.put, List.setIfInBounds_toArray, List.set_cons_zero, List.set_cons_succ])
  refine wpAnyH_ready (rs := [34]) (by kernel_rfl) (by simp) ?_
  refine AllReadyH.cons (o := _) rfl (fun KK hKK => ?_) AllReadyH.nil
  go_simp
  skip
  refine hKK.out _ _ ?_ (fun hHeld => ?_)
  · with_reducible exact ⟨B5.cell, N5.cell⟩
  clear hKK KK
  (try simp only [Act.put, List.setIfInBounds_toArray, List.set_cons_zero, List.set_cons_succ])
  refine wpAnyH_done (by kernel_rfl) ?_ _
  refine NoPanic.normal ?_
  all_goals
    have k := (show Kept (fun W => CertIn W ⟨x.below, s1, u1, u2, x.t0, x.t1, o1, p1, k0, x1⟩ (.slice a1 s1.length c1) (.slice a2 u1.length c2) (.slice a3 u2.length c3) (.slice a4 o1.length c4) (.slice a5 p1.length c5) (.slice a6 k0.length c6) (.slice a7 x1.length c7)) (fun k => wb.heap.size ≤ k ∧ k < w.heap.size + 3) _ from fun W f => ⟨k1 W f, k2 W f, k3 W f, (k4 W f).1, (k4 W f).2.1, (k4 W f).2.2, k5 W f⟩)
    have hsb := HFB.out.size
    have HK := Lib.hid (k.step (K' := (fun k => wb.heap.size ≤ k ∧ k < w.heap.size)) D5.2 (fun k hk e => by have := HZ.out; omega) (fun k hk => .inl (by omega)))
    have HF := Lib.hid ((HF0.out.trans G).trans' D5.2 (fun i hi e => by have := HZ.out; omega))
    have n0 := D5.1.cell 0
    have n1 := D5.1.cell 1
    have n2 := D5.1.cell 2
    have n3 := D5.1.cell 3
    have n4 := D5.1.cell 4
    have n5 := D5.1.cell 5
    have n6 := D5.1.cell 6
    have n7 := D5.1.cell 7
    have n8 := D5.1.cell 8
    have n9 := D5.1.cell 9
    simp only [List.getElem?_toArray, List.getElem?_cons_succ, List.getElem?_cons_zero] at n0 n1 n2 n3 n4 n5 n6 n7 n8 n9
    clear k k1 k2 k3 k4 k5 B D B5 D5 N N5 G
    go_wp2_with fail
    exact bodyPost_ret (v := .agg #[.bool x.below, .slice a1 s1.length c1, .slice a2 u1.length c2, .slice a3 u2.length c3, .int .i64 x.t0, .int .i64 x.t1, .slice a4 o1.length c4, .slice a5 p1.length c5, .slice a6 k0.length c6, .slice a7 x1.length c7]) (by simp [results, Tryz.results4, go_sem, n0, n1, n2, n3, n4, n5, n6, n7, n8, n9]) rfl ⟨⟨a1, c1, a2, c2, a3, c3, a4, c4, a5, c5, a6, c6, a7, c7, rfl, HK.out⟩, HF.out⟩
end Go.Proofs.YthjcoolefboodaaGreatDoor

namespace Go.Proofs.YthjcoolefboodaaGreatDoor
open Go Go.RowKit Go.Q
set_option linter.unusedSimpArgs false
theorem ints_block {w : World} {b : Nat} {cs : Array Value} (B : Blk w b 3 cs) (l : List Int) (hc : cs.toList = intCells l) (n : Nat) (hn : l.length = n) (hm : n ≤ 1000) : Ints w (.slice (some ⟨b, 0, none⟩) n n) l := by
  subst hn
  have hq : (intCells l).length = l.length := by unfold intCells; rw [List.length_map]
  have e : cs.size = l.length := by have := congrArg List.length hc; rwa [hq, Array.length_toList] at this
  have h := Vals.of_block B (by unfold maxLen; omega)
  rw [e, hc] at h
  exact h
theorem bytes_cells {w : World} {b : Nat} {cs : Array Value} (B : Blk w b 5 cs) (l : List UInt8) (hc : cs.toList = Lib.byteCells l) (n : Nat) (hn : l.length = n) (hm : n ≤ 1000) : Bytes w (.slice (some ⟨b, 0, none⟩) n n) l := by
  subst hn
  have h := Vals.of_block B (by have := congrArg List.length hc; rw [byteCells_len, Array.length_toList] at this; unfold maxLen; omega)
  have e : cs.size = l.length := by have := congrArg List.length hc; rwa [byteCells_len, Array.length_toList] at this
  rw [e, hc] at h
  exact h
theorem writeBool_any (w : World) :
    Calls Tryz.prog 59 #[.bool true] w fun e w' => e = .returned (.slice (some ⟨w.heap.size, 0, none⟩) 3 3) ∧ Bytes w' (.slice (some ⟨w.heap.size, 0, none⟩) 3 3) [1, 1, 255] ∧ Fr (fun _ => False) w w' := by
  go_enter Tryz.func59, Tryz.ntmps59
  go_wp2_with fail
  go_ret
  exact ⟨rfl, bytes_cells (Blk.new w 5 #[.int .u8 1, .int .u8 1, .int .u8 255]) [1, 1, 255] rfl 3 rfl (by omega), (Fr.refl w).alloc _⟩
theorem wrap_true : wrapS (tagOf 16) [[1, 1, 255]].flatten = [48, 3, 1, 1, 255] := by kernel_rfl
set_option maxRecDepth 20000 in
theorem told_any (w : World) :
    Calls Tryz.prog 34 #[.int .i64 (-1)] w fun e w' => (∃ a c, e = .returned (.tuple #[.slice a 5 c, .int .i64 0]) ∧ Kept (fun W => Bytes W (.slice a 5 c) [48, 3, 1, 1, 255]) (fun k => k < w.heap.size) w') ∧ Fr (fun _ => False) w w' := by
  go_enter Tryz.func34, Tryz.ntmps34
  go_wp2_with fail
  refine (writeBool_any _).mono ?_
  rintro e w1 ⟨rfl, hb, F1⟩
  obtain ⟨b0, hb0⟩ : ∃ b, b = w.heap.size := ⟨_, rfl⟩
  have HS := Lib.hid (sequence_any _ [[1, 1, 255]] _ (Parts.one hb) (by decide) (by decide))
  rw [wrap_true] at HS
  have hs1 := F1.size
  have HF1 := Lib.hid (F1.alloc (.cells #[.slice (some ⟨w.heap.size, 0, none⟩) 3 3] 22))
  clear hb F1
  rw [← hb0] at HS HF1 ⊢
  rw [← hb0] at hs1
  have HB0 := Lib.hid hb0
  clear hb0
  go_wp2_with fail
  refine HS.out.mono ?_
  rintro e w2 ⟨v, rfl, ho, F2⟩
  obtain ⟨a, m, c, rfl, hm⟩ := own_shape ho
  obtain rfl : m = 5 := hm
  have HF2 := Lib.hid (HF1.out.trans F2)
  have HK := Lib.hid (show Kept (fun W => Bytes W (.slice a 5 c) [48, 3, 1, 1, 255]) (fun k => k < b0) w2 from fun W f => (Vals.of_own (ownsRow_fr ho f (fun k hk hl => by have := (ho.lt k hk).1; rw [World.size_alloc] at this; omega))).1)
  clear HS F2 ho HF1
  go_wp2_with fail
  go_ret2
  exact ⟨⟨a, c, rfl, by rw [← HB0.out]; exact HK.out⟩, HF2.out⟩
theorem makerAdd_no (m fv sl : Value) (cr : Bool) (w : World) :
    Calls Tryz.prog 28 #[m, .bool false, .bool cr, fv, sl] w fun e w' => e = .returned (.tuple #[]) ∧ Fr (fun _ => False) w w' := by
  go_enter Tryz.func28, Tryz.ntmps28
  go_wp2_with fail
  refine bodyPost_ret (results_none rfl _ _ _) rfl ?_
  exact ⟨rfl, Fr.refl w⟩
abbrev viewCells : Array Value := #[.slice none 0 0, .slice none 0 0, .slice none 0 0, .bool true, .int .i64 (-1), .slice none 0 0, .slice none 0 0, .slice none 0 0, .bool false]
theorem exts3_any (bv : Nat) (w : World) (BV : Blk w bv 60 viewCells) :
    Calls Tryz.prog 33 #[pt bv] w fun e w' => (∃ a c, e = .returned (.tuple #[.slice a 5 c, .int .i64 0]) ∧ Kept (fun W => Bytes W (.slice a 5 c) [48, 3, 1, 1, 255]) (fun k => k < w.heap.size) w') ∧ Fr (fun _ => False) w w' := by
  have e4 := BV.cell 4
  simp only [List.getElem?_toArray, List.getElem?_cons_succ, List.getElem?_cons_zero] at e4
  clear BV
  go_enter Tryz.func33, Tryz.ntmps33
  go_wp2_with fail
  refine (told_any w).mono ?_
  rintro e w1 ⟨⟨a, c, rfl, hk⟩, F1⟩
  clear e4
  go_wp2_with fail
  go_ret2
  exact ⟨⟨a, c, rfl, hk⟩, F1⟩
set_option maxRecDepth 20000 in
set_option maxHeartbeats 4000000 in
theorem makerAdd_yes (bm bv : Nat) (vo : Value) (o : List Int) (w : World) (BM : Blk w bm 82 #[.slice none 0 0, .int .i64 0]) (BV : Blk w bv 60 viewCells) (ho : Kept (fun W => Ints W vo o) (fun k => k = bm) w) :
    Calls Tryz.prog 28 #[pt bm, .bool true, .bool true, .func (.func 33) #[] #[pt bv], vo] w fun e w' => (e = .returned (.tuple #[]) ∧ ∃ a c, Blk w' bm 82 #[.slice a 1 c, .int .i64 0] ∧ Exts w' (.slice a 1 c) [⟨o, true, [48, 3, 1, 1, 255]⟩]) ∧ Fr (fun k => k = bm) w w' := by
  obtain ⟨ao, co, rfl, -⟩ := Ints.form ho.now
  have HV := Lib.hid (exts3_any bv w BV)
  have HO := Lib.hid ho
  have HM := Lib.hid BM
  have e1 := BM.cell 1
  simp only [List.getElem?_toArray, List.getElem?_cons_succ, List.getElem?_cons_zero] at e1
  clear BV ho BM
  go_enter Tryz.func28, Tryz.ntmps28
  go_wp2_with fail
  refine HV.out.mono ?_
  rintro e w1 ⟨⟨a, c, rfl, hk⟩, F1⟩
  have hs1 := F1.size
  have hlt := HM.out.lt
  have B1 := HM.out.fr F1 (fun h => h)
  have hq : Kept (fun W => RExt W [.slice ao o.length co, .bool true, .slice a 5 c] ⟨o, true, [48, 3, 1, 1, 255]⟩) (fun k => (Value.slice none 0 0).ownBlock = some k ∨ k = bm) w1 :=
    (Kept.both (HO.out.old F1) (hk.weaken (K' := fun k => k = bm) (fun k e => by subst e; exact hlt))).weaken (fun k e => by
      rcases e with e | e
      · cases e
      · exact e) |>.imp (fun W h => ⟨_, _, rfl, h.1, h.2⟩)
  obtain ⟨a7, c7, w7, hrun, hrow7, F7, -⟩ := (GRow.nil 3 RExt (fun k => k = bm) 62 w1 w1.heap.size).add (s := 40) Tryz.underlying40 info62 rfl (by decide) (by decide) (Nat.le_refl _) ((Fr.refl w1).alloc (.cells #[.slice ao o.length co, .bool true, .slice a 5 c] 62)) w1.heap.size [.slice ao o.length co, .bool true, .slice a 5 c] rfl (Blk.new w1 62 #[.slice ao o.length co, .bool true, .slice a 5 c]) (by simp [Value.oneCell']) ⟨o, true, [48, 3, 1, 1, 255]⟩ hq (by decide)
  have HRUN := Lib.hid (show (Builtin.append_ #[40, 40] 40 #[.slice none 0 0, .slice (some ⟨w1.heap.size, 0, none⟩) 1 1]).run Tryz.prog (w1.alloc (.cells #[.slice ao o.length co, .bool true, .slice a 5 c] 62)) = .ok (.slice a7 1 c7) w7 from hrun)
  have B7 := B1.fr F7 (fun h => by cases h)
  have HB7 := Lib.hid (B7.set 0 (.slice a7 1 c7))
  have F8 : Fr (fun k => k = bm) w7 (w7.setCell ⟨bm, 0, none⟩ (.slice a7 1 c7)) := Fr.setCell (S := fun k => k = bm) (p := ⟨bm, 0, none⟩) (Fr.refl w7) (fun _ => rfl) _
  have HX := Lib.hid ((hrow7.kept (by decide) (fun k => k = bm) (fun k e => ⟨e, by omega⟩)) _ F8)
  have HF := Lib.hid (((F1.mono (T := fun k => k = bm) (fun _ _ h => h.elim)).trans' F7 (fun i _ e => by cases e)).trans' F8 (fun i _ e => e))
  have e0 := B1.cell 0
  have d0 := B7.cell 0
  have g0 := B7.frozen 0
  have d1 := (B1.alloc (.cells #[.slice ao o.length co, .bool true, .slice a 5 c] 62)).cell 0
  simp only [List.getElem?_toArray, List.getElem?_cons_succ, List.getElem?_cons_zero] at d0 d1 e0
  clear HV hk hq hrun hrow7 F7 B7 F8 B1 F1 e1
  go_wp2_with (at_builtin; refine wpList_append_run (by rfl) (.tmp 35) (.tmp 40) 40 (by rfl) _ w7 (by exact HRUN.out) ?_)
  go_end0
  exact ⟨⟨rfl, a7, c7, HB7.out, HX.out⟩, HF.out⟩
theorem noCheck_any (w : World) :
    Calls Tryz.prog 46 #[] w fun e w' => e = .returned (.slice (some ⟨w.heap.size, 0, none⟩) 10 10) ∧ Ints w' (.slice (some ⟨w.heap.size, 0, none⟩) 10 10) [1, 3, 6, 1, 5, 5, 7, 48, 1, 5] ∧ Fr (fun _ => False) w w' := by
  go_enter Tryz.func46, Tryz.ntmps46
  go_wp2_with fail
  go_ret
  exact ⟨rfl, ints_block (Blk.new w 3 #[.int .i64 1, .int .i64 3, .int .i64 6, .int .i64 1, .int .i64 5, .int .i64 5, .int .i64 7, .int .i64 48, .int .i64 1, .int .i64 5]) [1, 3, 6, 1, 5, 5, 7, 48, 1, 5] rfl 10 rfl (by omega), (Fr.refl w).alloc _⟩
theorem under_any (n : Int) (w : World) :
    Calls Tryz.prog 49 #[.int .i64 n] w fun e w' => e = .returned (.slice (some ⟨w.heap.size, 0, none⟩) 4 4) ∧ Ints w' (.slice (some ⟨w.heap.size, 0, none⟩) 4 4) [2, 5, 29, n] ∧ Fr (fun _ => False) w w' := by
  go_enter Tryz.func49, Tryz.ntmps49
  go_wp2_with fail
  go_ret
  exact ⟨rfl, ints_block (Blk.new w 3 #[.int .i64 2, .int .i64 5, .int .i64 29, .int .i64 n]) [2, 5, 29, n] rfl 4 rfl (by omega), (Fr.refl w).alloc _⟩
set_option maxRecDepth 20000 in
set_option maxHeartbeats 4000000 in
theorem extsAuth_any (w : World) :
    Calls Tryz.prog 14 #[.agg viewCells] w fun e w' => (∃ a c, e = .returned (.tuple #[.slice a 1 c, .int .i64 0]) ∧ Exts w' (.slice a 1 c) [⟨[2, 5, 29, 19], true, [48, 3, 1, 1, 255]⟩]) ∧ Fr (fun _ => False) w w' := by
  obtain ⟨bv, hbv⟩ : ∃ b, b = w.heap.size := ⟨_, rfl⟩
  have HBV := Lib.hid hbv
  have F0 : Fr (fun _ => False) w ((w.alloc (.cells viewCells 60)).alloc (.cells #[.slice none 0 0, .int .i64 0] 82)) := ((Fr.refl w).alloc _).alloc _
  have BV := (Blk.new w 60 viewCells).alloc (.cells #[.slice none 0 0, .int .i64 0] 82)
  have BM := Blk.new (w.alloc (.cells viewCells 60)) 82 #[.slice none 0 0, .int .i64 0]
  rw [World.size_alloc, ← hbv] at BM
  rw [← hbv] at BV
  have HF0 := Lib.hid F0
  clear F0 hbv
  go_enter Tryz.func14, Tryz.ntmps14
  go_upto_region 2 with fail
  rw [← HBV.out]
  generalize ((w.alloc (.cells viewCells 60)).alloc (.cells #[.slice none 0 0, .int .i64 0] 82)) = w0 at *
  generalize hbm : bv + 1 = bm at *
  have hne : bv ≠ bm := by omega
  have hb0 : w.heap.size ≤ bm := by have := HBV.out; omega
  have HBM := Lib.hid hbm
  clear hbm
  have d0 := BV.cell 0
  simp only [List.getElem?_toArray, List.getElem?_cons_succ, List.getElem?_cons_zero] at d0
  go_wp2_with fail
  refine (makerAdd_no _ _ _ _ _).mono ?_
  rintro e w1 ⟨rfl, F⟩
  replace F := ((Fr.refl w0).alloc (.cells #[.int .i64 2, .int .i64 5, .int .i64 29, .int .i64 14] 3)).trans F
  replace BV := BV.fr F (fun h => h)
  replace BM := BM.fr F (fun h => h)
  replace HF0 := Lib.hid (HF0.out.trans F)
  clear F d0
  have d0 := BV.cell 2
  simp only [List.getElem?_toArray, List.getElem?_cons_succ, List.getElem?_cons_zero] at d0
  go_wp2_with fail
  refine (makerAdd_no _ _ _ _ _).mono ?_
  rintro e w2 ⟨rfl, F⟩
  replace F := ((Fr.refl w1).alloc (.cells #[.int .i64 2, .int .i64 5, .int .i64 29, .int .i64 15] 3)).trans F
  replace BV := BV.fr F (fun h => h)
  replace BM := BM.fr F (fun h => h)
  replace HF0 := Lib.hid (HF0.out.trans F)
  clear F d0
  have d0 := BV.cell 3
  simp only [List.getElem?_toArray, List.getElem?_cons_succ, List.getElem?_cons_zero] at d0
  obtain ⟨bo, hbo⟩ : ∃ b, b = w2.heap.size := ⟨_, rfl⟩
  have F3 : Fr (fun _ => False) w2 (w2.alloc (.cells #[.int .i64 2, .int .i64 5, .int .i64 29, .int .i64 19] 3)) := (Fr.refl w2).alloc _
  have VO := Lib.hid (ints_block (Blk.new w2 3 #[.int .i64 2, .int .i64 5, .int .i64 29, .int .i64 19]) [2, 5, 29, 19] rfl 4 rfl (by omega))
  have hlm := BM.lt
  have HADD := Lib.hid (makerAdd_yes bm bv _ [2, 5, 29, 19] _ (BM.fr F3 (fun h => h)) (BV.fr F3 (fun h => h)) (fun W f => VO.out.fr f (fun h0 k hk hs => by
    simp only [Value.ownBlock, Option.some.injEq] at hk
    omega)))
  rw [← hbo] at HADD
  replace BV := BV.fr F3 (fun h => h)
  replace HF0 := Lib.hid (HF0.out.trans F3)
  have HBO := Lib.hid hbo
  clear F3 VO hbo BM
  go_upto_region 5 with (go_at_call 28; rw [← HBO.out]; refine HADD.out.mono ?_; rintro e w3 ⟨⟨rfl, a, c, BM, HX⟩, F⟩; replace BV := BV.fr F hne; replace HF0 := Lib.hid (HF0.out.trans' F (fun i hi e => by omega)); replace HX := Lib.hid HX; clear F HADD d0)
  have d0 := BV.cell 5
  simp only [List.getElem?_toArray, List.getElem?_cons_succ, List.getElem?_cons_zero] at d0
  go_wp2_with fail
  refine (makerAdd_no _ _ _ _ _).mono ?_
  rintro e w4 ⟨rfl, F⟩
  replace F := ((Fr.refl w3).alloc (.cells #[.int .i64 2, .int .i64 5, .int .i64 29, .int .i64 31] 3)).trans F
  replace BV := BV.fr F (fun h => h)
  replace BM := BM.fr F (fun h => h)
  replace HX := Lib.hid (HX.out.old F)
  replace HF0 := Lib.hid (HF0.out.trans F)
  clear F d0
  have d0 := BV.cell 1
  simp only [List.getElem?_toArray, List.getElem?_cons_succ, List.getElem?_cons_zero] at d0
  go_wp2_with fail
  refine (makerAdd_no _ _ _ _ _).mono ?_
  rintro e w5 ⟨rfl, F⟩
  replace F := ((Fr.refl w4).alloc (.cells #[.int .i64 2, .int .i64 5, .int .i64 29, .int .i64 35] 3)).trans F
  replace BV := BV.fr F (fun h => h)
  replace BM := BM.fr F (fun h => h)
  replace HX := Lib.hid (HX.out.old F)
  replace HF0 := Lib.hid (HF0.out.trans F)
  clear F d0
  have d0 := BV.cell 7
  simp only [List.getElem?_toArray, List.getElem?_cons_succ, List.getElem?_cons_zero] at d0
  go_wp2_with fail
  refine (makerAdd_no _ _ _ _ _).mono ?_
  rintro e w6 ⟨rfl, F⟩
  replace F := ((Fr.refl w5).alloc (.cells #[.int .i64 2, .int .i64 5, .int .i64 29, .int .i64 37] 3)).trans F
  replace BV := BV.fr F (fun h => h)
  replace BM := BM.fr F (fun h => h)
  replace HX := Lib.hid (HX.out.old F)
  replace HF0 := Lib.hid (HF0.out.trans F)
  clear F d0
  have d0 := BV.cell 6
  simp only [List.getElem?_toArray, List.getElem?_cons_succ, List.getElem?_cons_zero] at d0
  go_wp2_with fail
  refine (makerAdd_no _ _ _ _ _).mono ?_
  rintro e w7 ⟨rfl, F⟩
  replace F := ((Fr.refl w6).alloc (.cells #[.int .i64 2, .int .i64 5, .int .i64 29, .int .i64 46] 3)).trans F
  replace BV := BV.fr F (fun h => h)
  replace BM := BM.fr F (fun h => h)
  replace HX := Lib.hid (HX.out.old F)
  replace HF0 := Lib.hid (HF0.out.trans F)
  clear F d0
  go_upto_region 9 with fail
  replace HF0 := Lib.hid HF0.out.drew
  replace BV := BV.drew
  replace BM := BM.drew
  replace HX := Lib.hid (HX.out.old (Fr.refl w7).drew)
  go_region_held3 (fun w' => ∀ j, w'.cell? ⟨bv, j, none⟩ = (viewCells : Array Value)[j]?) (exact BV.cell) (first
    | (go_at_call 46; refine (noCheck_any _).mono ?_; rintro e w' ⟨rfl, -, F⟩; replace BV := BV.fr F (fun h => h); replace BM := BM.fr F (fun h => h); replace HX := Lib.hid (HX.out.old F); replace HF0 := Lib.hid (HF0.out.trans F); clear F)
    | (go_at_call 28; refine (makerAdd_no _ _ _ _ _).mono ?_; rintro e w' ⟨rfl, F⟩; replace BV := BV.fr F (fun h => h); replace BM := BM.fr F (fun h => h); replace HX := Lib.hid (HX.out.old F); replace HF0 := Lib.hid (HF0.out.trans F); clear F))
  all_goals
    have d0 := BM.cell 0
    have d1 := BM.cell 1
    simp only [List.getElem?_toArray, List.getElem?_cons_succ, List.getElem?_cons_zero] at d0 d1
    clear BV BM
    go_wp2_with fail
    go_ret2
    exact ⟨⟨a, c, rfl, HX.out⟩, HF0.out⟩
def RAny (_ : World) (_ : List Value) (_ : Unit) : Prop := True
theorem info26 : (Tryz.prog.info? 26).map (fun i => (i.zero, i.size, i.bytes)) = some (some (.slice none 0 0), 1, 24) := by kernel_rfl
theorem oneSlice (a : Option Addr) (n c : Nat) : ∀ u ∈ [Value.slice a n c], u.oneCell' = true := by simp [Value.oneCell']
abbrev lastArcs : Array Value := #[.int .i64 14, .int .i64 15, .int .i64 19, .int .i64 31, .int .i64 35, .int .i64 37, .int .i64 46]
theorem lastArcs_get (j : Nat) (hj : j < 7) : ∃ n : Int, lastArcs[j]? = some (.int .i64 n) := by
  rcases (by omega : j = 0 ∨ j = 1 ∨ j = 2 ∨ j = 3 ∨ j = 4 ∨ j = 5 ∨ j = 6) with rfl | rfl | rfl | rfl | rfl | rfl | rfl <;> exact ⟨_, rfl⟩
set_option maxRecDepth 20000 in
set_option maxHeartbeats 4000000 in
theorem knownOids_any (w : World) :
    Calls Tryz.prog 17 #[] w fun e w' => (∃ a c, e = .returned (.slice a 8 c)) ∧ Fr (fun _ => False) w w' := by
  obtain ⟨z, hz⟩ : ∃ z, z = w.heap.size := ⟨_, rfl⟩
  have HZ := Lib.hid hz
  have F0 : Fr (fun _ => False) w (w.alloc (.cells lastArcs 3)) := (Fr.refl w).alloc _
  have BZ := Blk.new w 3 lastArcs
  rw [← hz] at BZ
  have HF0 := Lib.hid F0
  clear hz F0
  go_enter Tryz.func17, Tryz.ntmps17
  go_upto_block 1 with fail
  rw [← HZ.out]
  generalize w.alloc (.cells lastArcs 3) = w0 at *
  have HBZ := Lib.hid BZ
  clear BZ
  go_loopg [1, 6] 7 (fun g u i wr => ∃ (j : Nat) (a : Option Addr) (c : Nat) (gs : List Unit), g = 7 - j ∧ j ≤ 7 ∧ u = .slice a gs.length c ∧ i = .int .i64 j ∧ gs.length = j ∧ GRow 1 RAny (fun _ => False) 26 wr w0.heap.size (.slice a gs.length c) gs ∧ Fr (fun _ => False) w0 wr)
  case atStart => exact ⟨0, none, 0, [], rfl, Nat.zero_le _, rfl, rfl, rfl, GRow.nil _ _ _ _ _ _, Fr.refl _⟩
  case round =>
    obtain ⟨j, a, c, gs, hg, hj, rfl, rfl, hgl, hrow, F⟩ := hrel
    have HG := Lib.hid hg
    have HGL := Lib.hid hgl
    have HRW := Lib.hid hrow
    have HF := Lib.hid F
    clear hg hrow
    by_cases hjl : j < 7
    · obtain ⟨n, hn⟩ := lastArcs_get j hjl
      have e0 := (HBZ.out.fr F (fun h => h)).cell j
      rw [hn] at e0
      have q1 : (j : Int) < 7 := by omega
      have q2 : (0 : Int) ≤ (j : Int) := by omega
      clear hn F hgl
      go_wp2_with fail
      refine (under_any _ _).mono ?_
      rintro e w2 ⟨rfl, -, F2⟩
      obtain ⟨bu, hbu⟩ : ∃ b, b = wr.heap.size := ⟨_, rfl⟩
      rw [← hbu]
      have hkp := HRW.out.keep
      obtain ⟨a7, c7, w7, hrun, hrow7, F7, -⟩ := (HRW.out.old F2).add (s := 58) Tryz.underlying58 info26 rfl (by decide) (by decide) (HF.out.trans F2).size ((Fr.refl w2).alloc (.cells #[.slice (some ⟨bu, 0, none⟩) 4 4] 26)) w2.heap.size [.slice (some ⟨bu, 0, none⟩) 4 4] rfl (Blk.new w2 26 #[.slice (some ⟨bu, 0, none⟩) 4 4]) (oneSlice _ _ _) () (fun _ _ => True.intro) (by have := HGL.out; omega)
      have HRUN := Lib.hid hrun
      have HRW7 := Lib.hid hrow7
      have HF7 := Lib.hid ((HF.out.trans F2).trans' F7 (fun i hi e => absurd hi (by have := (hkp i e).1; omega)))
      clear F2 hrun hrow7 F7 HRW hkp e0 hbu
      go_wp2_with (at_builtin; refine wpList_append_run (by rfl) (.tmp 10) (.tmp 13) 58 (by rfl) _ w7 (by exact HRUN.out) ?_)
      go_roundg (7 - (j + 1))
      case measure => rw [HG.out]; omega
      case rel => exact ⟨j + 1, a7, c7, gs ++ [()], rfl, by omega, by rw [List.length_append]; rfl, by go_num, by rw [List.length_append, HGL.out]; rfl, by rw [List.length_append]; exact HRW7.out, HF7.out⟩
    · obtain rfl : j = 7 := by omega
      have HFF := Lib.hid (HF0.out.trans F)
      have q1 : ¬ ((7 : Nat) : Int) < 7 := by omega
      clear F hgl
      go_wp2_with fail
      refine (noCheck_any _).mono ?_
      rintro e w2 ⟨rfl, -, F2⟩
      obtain ⟨bu, hbu⟩ : ∃ b, b = wr.heap.size := ⟨_, rfl⟩
      rw [← hbu]
      have hkp := HRW.out.keep
      obtain ⟨a7, c7, w7, hrun, -, F7, -⟩ := (HRW.out.old F2).add (s := 58) Tryz.underlying58 info26 rfl (by decide) (by decide) (HF.out.trans F2).size ((Fr.refl w2).alloc (.cells #[.slice (some ⟨bu, 0, none⟩) 10 10] 26)) w2.heap.size [.slice (some ⟨bu, 0, none⟩) 10 10] rfl (Blk.new w2 26 #[.slice (some ⟨bu, 0, none⟩) 10 10]) (oneSlice _ _ _) () (fun _ _ => True.intro) (by have := HGL.out; omega)
      have HRUN := Lib.hid hrun
      have HF7 := Lib.hid ((HFF.out.trans F2).trans' F7 (fun i hi e => absurd hi (by have := (hkp i e).1; have := HF0.out.size; omega)))
      clear F2 hrun F7 HRW hkp hbu
      go_wp2_with (at_builtin; refine wpList_append_run (by rfl) (.tmp 16) (.tmp 18) 58 (by rfl) _ w7 (by exact HRUN.out) ?_)
      go_ret
      exact ⟨⟨a7, c7, by show Ending.returned (.slice a7 (gs.length + 1) c7) = _; rw [HGL.out]⟩, HF7.out⟩
theorem hex_told : hexS [48, 3, 1, 1, 255] = [51, 48, 48, 51, 48, 49, 48, 49, 102, 102] := by kernel_rfl
set_option maxRecDepth 20000 in
set_option maxHeartbeats 4000000 in
theorem ciKnown_any (w : World) :
    Calls Tryz.prog 5 #[] w fun e w' => e = .returned (.bool true) ∧ Fr (fun _ => False) w w' := by
  have HO := Lib.hid (extsAuth_any w)
  go_enter Tryz.func5, Tryz.ntmps5
  go_wp2_with fail
  refine HO.out.mono ?_
  rintro e w1 ⟨⟨a, c, rfl, hx⟩, F1⟩
  obtain ⟨b, o, ao, co, av, cv, rfl, -, hga, e0, e1, e2⟩ := Exts.get hx (i := 0) rfl
  obtain ⟨vo, vv, hq, hio, hbv⟩ := hga
  simp only [Value.agg.injEq, Array.mk.injEq, List.cons.injEq, and_true, true_and] at hq
  obtain ⟨rfl, rfl⟩ := hq
  have VO := Lib.hid (ints_block (Blk.new w1 3 #[.int .i64 2, .int .i64 5, .int .i64 29, .int .i64 19]) [2, 5, 29, 19] rfl 4 rfl (by omega))
  have F2 := F1.alloc (.cells #[.int .i64 2, .int .i64 5, .int .i64 29, .int .i64 19] 3)
  have F12 : Fr (fun _ => False) w1 (w1.alloc (.cells #[.int .i64 2, .int .i64 5, .int .i64 29, .int .i64 19] 3)) := (Fr.refl w1).alloc _
  have HSM := Lib.hid (r04Same_any _ _ [2, 5, 29, 19] [2, 5, 29, 19] _ (hio.old F12) VO.out)
  rw [decide_eq_true rfl] at HSM
  have e2' := F12.cell e2 (fun h => h)
  have HB := Lib.hid (hbv.old F12)
  have HF2 := Lib.hid F2
  clear HO hx VO F2 F12 hio hbv F1
  simp only [Nat.zero_mul, Nat.add_zero] at e0 e1 e2 e2'
  go_wp2_with fail
  refine HSM.out.mono ?_
  rintro e w2 ⟨rfl, F2⟩
  have HH := Lib.hid (hex_any _ [48, 3, 1, 1, 255] w2 (HB.out.old F2) (by decide))
  rw [hex_told] at HH
  have e3 := F2.cell e2' (fun h => h)
  have HF3 := Lib.hid (HF2.out.trans F2)
  clear HSM e2' HB F2 HF2 e0 e1 e2
  go_wp2_with fail
  refine HH.out.mono ?_
  rintro e w3 ⟨rfl, F3⟩
  have HF4 := Lib.hid (HF3.out.trans F3)
  clear HH HF3 F3 e3
  have q1 : (([51, 48, 48, 51, 48, 49, 48, 49, 102, 102] : List UInt8) == [51, 48, 48, 51, 48, 49, 48, 49, 102, 102]) = true := by decide
  go_wp2_with fail
  refine (knownOids_any _).mono ?_
  rintro e w5 ⟨⟨a5, c5, rfl⟩, F5⟩
  go_wp2_with fail
  go_ret
  exact ⟨rfl, HF4.out.trans F5⟩
end Go.Proofs.YthjcoolefboodaaGreatDoor

namespace Go.Q
open Go
def b256 : Nat → Nat → List UInt8
  | 0, _ => []
  | f + 1, n => if n = 0 then [] else b256 f (n / 256) ++ [UInt8.ofNat (n % 256)]
theorem beS_snoc (l : List UInt8) (x : UInt8) : beS (l ++ [x]) = beS l * 256 + x.toNat := by simp [beS, List.foldl_append]
theorem b256_val : ∀ (f n : Nat), n < 256 ^ f → beS (b256 f n) = n
  | 0, n, h => by simp at h; subst h; rfl
  | f + 1, n, h => by
    unfold b256
    split
    · rename_i h0; subst h0; rfl
    · rw [beS_snoc, b256_val f (n / 256) (by rw [Nat.pow_succ] at h; omega), u8 (n % 256) (by omega)]
      omega
theorem b256_len : ∀ (f n : Nat), (b256 f n).length ≤ f
  | 0, _ => by simp [b256]
  | f + 1, n => by
    unfold b256
    split
    · simp
    · have := b256_len f (n / 256)
      rw [List.length_append, List.length_singleton]
      omega
theorem b256_head : ∀ (f n : Nat), n < 256 ^ f → ∀ x, (b256 f n)[0]? = some x → x ≠ 0
  | 0, n, h, x, hx => by simp [b256] at hx
  | f + 1, n, h, x, hx => by
    unfold b256 at hx
    split at hx
    · simp at hx
    · rename_i hn
      by_cases h0 : n / 256 = 0
      · rw [h0] at hx
        have e : b256 f 0 = [] := by cases f <;> simp [b256]
        rw [e] at hx
        simp at hx
        subst hx
        intro e
        have := congrArg UInt8.toNat e
        rw [u8 (n % 256) (by omega)] at this
        simp at this
        omega
      · have hl : 0 < (b256 f (n / 256)).length := by
          rcases Nat.eq_zero_or_pos (b256 f (n / 256)).length with h1 | h1
          · have := b256_val f (n / 256) (by rw [Nat.pow_succ] at h; omega)
            rw [List.length_eq_zero_iff.1 h1] at this
            exact absurd this.symm h0
          · exact h1
        rw [List.getElem?_append_left hl] at hx
        exact b256_head f (n / 256) (by rw [Nat.pow_succ] at h; omega) x hx
def decVal : List Nat → Nat
  | [] => 0
  | x :: t => x + 10 * decVal t
theorem decVal_append : ∀ a b : List Nat, decVal (a ++ b) = decVal a + 10 ^ a.length * decVal b
  | [], b => by simp [decVal]
  | x :: t, b => by
    have ih := decVal_append t b
    simp only [List.cons_append, decVal, ih, List.length_cons, Nat.pow_succ, Nat.mul_add]
    rw [← Nat.mul_assoc, Nat.mul_comm (10 ^ t.length) 10]
    omega
def mulGo : Nat → List Nat → List Nat × Nat
  | c, [] => ([], c)
  | c, x :: t => (((256 * x + c) % 10) :: (mulGo ((256 * x + c) / 10) t).1, (mulGo ((256 * x + c) / 10) t).2)
theorem mulGo_snoc : ∀ (c : Nat) (l : List Nat) (x : Nat), mulGo c (l ++ [x]) = ((mulGo c l).1 ++ [(256 * x + (mulGo c l).2) % 10], (256 * x + (mulGo c l).2) / 10)
  | c, [], x => by simp [mulGo]
  | c, y :: t, x => by
    have ih := mulGo_snoc ((256 * y + c) / 10) t x
    simp only [List.cons_append, mulGo, ih]
theorem mulGo_len : ∀ (c : Nat) (l : List Nat), (mulGo c l).1.length = l.length
  | c, [] => rfl
  | c, x :: t => by simp only [mulGo, List.length_cons, mulGo_len]
theorem mulGo_val : ∀ (c : Nat) (l : List Nat), decVal (mulGo c l).1 + 10 ^ l.length * (mulGo c l).2 = 256 * decVal l + c
  | c, [] => by simp [mulGo, decVal]
  | c, x :: t => by
    have ih := mulGo_val ((256 * x + c) / 10) t
    simp only [mulGo, decVal, List.length_cons, Nat.pow_succ]
    rw [show 10 ^ t.length * 10 * (mulGo ((256 * x + c) / 10) t).2 = 10 * (10 ^ t.length * (mulGo ((256 * x + c) / 10) t).2) from by rw [Nat.mul_comm (10 ^ t.length) 10, Nat.mul_assoc]]
    generalize 10 ^ t.length * (mulGo ((256 * x + c) / 10) t).2 = y at *
    omega
theorem mulGo_small : ∀ (c : Nat) (l : List Nat), c ≤ 255 → (∀ x ∈ l, x < 10) → (mulGo c l).2 ≤ 255 ∧ ∀ x ∈ (mulGo c l).1, x < 10
  | c, [], hc, _ => ⟨hc, fun x hx => by cases hx⟩
  | c, x :: t, hc, h => by
    have hx := h x (by simp)
    obtain ⟨h1, h2⟩ := mulGo_small ((256 * x + c) / 10) t (by omega) (fun y hy => h y (by simp [hy]))
    refine ⟨h1, fun y hy => ?_⟩
    simp only [mulGo, List.mem_cons] at hy
    rcases hy with rfl | hy
    · omega
    · exact h2 y hy
def tailD : Nat → Nat → List Nat
  | 0, _ => []
  | f + 1, c => if c = 0 then [] else c % 10 :: tailD f (c / 10)
theorem tail_val (c : Nat) (h : c ≤ 255) : decVal (tailD 3 c) = c := by
  simp only [tailD]
  split
  · simp [decVal]; omega
  · split
    · simp [decVal]; omega
    · split
      · simp [decVal]; omega
      · simp [decVal]; omega
theorem tail_digits : ∀ (f c : Nat), ∀ x ∈ tailD f c, x < 10
  | 0, _, x, hx => by cases hx
  | f + 1, c, x, hx => by
    unfold tailD at hx
    split at hx
    · cases hx
    · rcases List.mem_cons.1 hx with rfl | hx
      · omega
      · exact tail_digits f (c / 10) x hx
theorem tail_len : ∀ (f c : Nat), (tailD f c).length ≤ f
  | 0, _ => by simp [tailD]
  | f + 1, c => by
    unfold tailD
    split
    · simp
    · have := tail_len f (c / 10)
      simp only [List.length_cons]
      omega
theorem tail_last (c : Nat) (h : c ≤ 255) : ∀ x, (tailD 3 c).getLast? = some x → x ≠ 0 := by
  intro x hx
  simp only [tailD] at hx
  split at hx
  · cases hx
  · split at hx
    · simp at hx; omega
    · split at hx
      · simp at hx; omega
      · simp at hx; omega
def stepD (d : List Nat) (x : UInt8) : List Nat := (mulGo x.toNat d).1 ++ tailD 3 (mulGo x.toNat d).2
def decGood (d : List Nat) : Prop := (∀ x ∈ d, x < 10) ∧ d ≠ [] ∧ (d = [0] ∨ ∀ x, d.getLast? = some x → x ≠ 0)
theorem stepD_good {d : List Nat} (h : decGood d) (x : UInt8) : decGood (stepD d x) ∧ decVal (stepD d x) = 256 * decVal d + x.toNat ∧ (stepD d x).length ≤ d.length + 3 := by
  obtain ⟨h1, h2, h3⟩ := h
  have hx := x.toNat_lt
  obtain ⟨g1, g2⟩ := mulGo_small x.toNat d (by omega) h1
  have hv := mulGo_val x.toNat d
  have hl := mulGo_len x.toNat d
  refine ⟨⟨?_, ?_, ?_⟩, ?_, ?_⟩
  · intro y hy
    rcases List.mem_append.1 hy with hy | hy
    · exact g2 y hy
    · exact tail_digits _ _ y hy
  · intro e
    have := congrArg List.length e
    simp only [stepD, List.length_append, hl, List.length_nil] at this
    have h4 := List.length_pos_iff.2 h2
    omega
  · obtain ⟨t, z, rfl⟩ : ∃ t z, d = t ++ [z] := ⟨d.dropLast, d.getLast h2, (List.dropLast_concat_getLast h2).symm⟩
    by_cases h0 : (mulGo x.toNat (t ++ [z])).2 = 0
    · have e : stepD (t ++ [z]) x = (mulGo x.toNat (t ++ [z])).1 := by unfold stepD; rw [h0]; simp [tailD]
      rw [e]
      rw [mulGo_snoc] at h0 ⊢
      simp only at h0 ⊢
      have hz : z = 0 := by omega
      rcases h3 with h3 | h3
      · have ht : t = [] := by
          have := congrArg List.length h3
          simp at this
          exact this
        subst ht
        subst hz
        simp only [mulGo, List.nil_append] at h0 ⊢
        by_cases hx0 : x.toNat = 0
        · exact .inl (by simp [hx0])
        · exact .inr (fun y hy => by simp at hy; omega)
      · exact absurd hz (h3 z (by simp))
    · refine .inr (fun y hy => ?_)
      unfold stepD at hy
      have hne : tailD 3 (mulGo x.toNat (t ++ [z])).2 ≠ [] := by
        simp only [tailD, if_neg h0]
        exact List.cons_ne_nil _ _
      rw [List.getLast?_append] at hy
      cases hq : (tailD 3 (mulGo x.toNat (t ++ [z])).2).getLast? with
      | none => exact absurd (List.getLast?_eq_none_iff.1 hq) hne
      | some q =>
        rw [hq] at hy
        simp only [Option.some_or, Option.some.injEq] at hy
        subst hy
        exact tail_last _ g1 _ hq
  · unfold stepD
    rw [decVal_append, tail_val _ g1, hl]
    exact hv
  · unfold stepD
    rw [List.length_append, hl]
    have := tail_len 3 (mulGo x.toNat d).2
    omega
def digsS (b : List UInt8) : List Nat := b.foldl stepD [0]
theorem digs_good (b : List UInt8) : decGood (digsS b) ∧ decVal (digsS b) = beS b ∧ (digsS b).length ≤ 1 + 3 * b.length := by
  induction hn : b.length generalizing b with
  | zero =>
    obtain rfl := List.length_eq_zero_iff.1 hn
    exact ⟨⟨by simp [digsS], by simp [digsS], .inl rfl⟩, rfl, by simp [digsS]⟩
  | succ n ih =>
    have hne : b ≠ [] := fun e => by simp [e] at hn
    obtain ⟨t, x, rfl⟩ : ∃ t x, b = t ++ [x] := ⟨b.dropLast, b.getLast hne, (List.dropLast_concat_getLast hne).symm⟩
    obtain ⟨h1, h2, h3⟩ := ih t (by simpa using hn)
    have e : digsS (t ++ [x]) = stepD (digsS t) x := by simp [digsS, List.foldl_append]
    rw [e]
    obtain ⟨g1, g2, g3⟩ := stepD_good h1 x
    refine ⟨g1, by rw [g2, h2, beS_snoc]; omega, by simp at hn; omega⟩
theorem digsS_take {b : List UInt8} {j : Nat} {x : UInt8} (h : b[j]? = some x) : digsS (b.take (j + 1)) = stepD (digsS (b.take j)) x := by
  unfold digsS
  rw [List.take_add_one, h]
  simp [List.foldl_append]
def decText (d : List Nat) : List UInt8 := d.reverse.map fun x => UInt8.ofNat (48 + x)
theorem dec_small {n : Nat} (h : n < 10) : Lib.decDigits n = [UInt8.ofNat (48 + n)] := by rw [Lib.decDigits, dif_pos h]
theorem dec_big {n : Nat} (h : ¬ n < 10) : Lib.decDigits n = Lib.decDigits (n / 10) ++ [UInt8.ofNat (48 + n % 10)] := by rw [Lib.decDigits, dif_neg h]
theorem decText_val : ∀ d : List Nat, decGood d → decText d = Lib.decDigits (decVal d)
  | [], h => absurd rfl h.2.1
  | [x], h => by
    have hx := h.1 x (by simp)
    have e : decVal [x] = x := by simp [decVal]
    rw [e, dec_small hx]
    rfl
  | x :: y :: t, h => by
    have hx := h.1 x (by simp)
    have hl : ∀ z, (x :: y :: t).getLast? = some z → z ≠ 0 := by
      rcases h.2.2 with h3 | h3
      · cases h3
      · exact h3
    have hg : decGood (y :: t) := ⟨fun z hz => h.1 z (by simp [List.mem_cons.1 hz]), by simp, .inr (fun z hz => hl z (by rw [List.getLast?_cons_cons]; exact hz))⟩
    have ih := decText_val (y :: t) hg
    have hpos : decVal (y :: t) ≠ 0 := by
      have : ∀ l : List Nat, l ≠ [] → (∀ z, l.getLast? = some z → z ≠ 0) → decVal l ≠ 0 := by
        intro l
        induction l with
        | nil => intro h; exact absurd rfl h
        | cons a s ih =>
          intro _ h
          cases s with
          | nil => simp only [decVal]; have := h a rfl; omega
          | cons b r =>
            have := ih (by simp) (fun z hz => h z (by rw [List.getLast?_cons_cons]; exact hz))
            simp only [decVal] at this ⊢
            omega
      exact this _ (by simp) (fun z hz => hl z (by rw [List.getLast?_cons_cons]; exact hz))
    have e1 : decText (x :: y :: t) = decText (y :: t) ++ [UInt8.ofNat (48 + x)] := by simp [decText]
    have e2 : decVal (x :: y :: t) = x + 10 * decVal (y :: t) := rfl
    rw [e1, ih, e2]
    generalize decVal (y :: t) = v at *
    rw [dec_big (n := x + 10 * v) (by omega), show (x + 10 * v) / 10 = v from by omega, show (x + 10 * v) % 10 = x from by omega]
theorem num_text {n : Int} (h0 : 0 ≤ n) (h1 : n ≤ 4294967295) : decText (digsS (b256 8 n.toNat)) = Lib.itoa n := by
  obtain ⟨g1, g2, -⟩ := digs_good (b256 8 n.toNat)
  rw [decText_val _ g1, g2, b256_val 8 n.toNat (Nat.lt_of_le_of_lt (by omega : n.toNat ≤ 4294967295) (by decide))]
  unfold Lib.itoa
  rw [if_neg (by omega)]
end Go.Q
