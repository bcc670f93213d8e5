/-
  Merged by program: XIxSame.
-/
import Derived.Test.YtehlipgmkinfbaaGreatDoorO0m
import Derived.Sort.QuietTacIn
import Derived.Sort.CutIn
import Derived.Shelf.RegionOpen
namespace Go.Proofs.YtehlipgmkinfbaaGreatDoor
open Go Go.RowKit Go.Q
attribute [local go_sem] Oper.semAt_some
set_option linter.unusedSimpArgs false
theorem six_of {l : List Value} (h : l.length = 6) : ∃ a b c d e f, l = [a, b, c, d, e, f] := by
  match l, h with
  | [a, b, c, d, e, f], _ => exact ⟨a, b, c, d, e, f, rfl⟩
set_option maxRecDepth 100000 in
set_option maxHeartbeats 8000000 in
theorem ixSame_any (va vb : Value) (L M : List RowP) (w : World) (ha : IxAt w va L) (hb : IxAt w vb M) (hsL : ∀ r ∈ L, r.num.size.length ≤ 1000000) (hsM : ∀ r ∈ M, r.num.size.length ≤ 1000000) :
    Calls Tryz.prog 22 #[va, vb] w fun e w' => e = .returned (.bool (sameS L M)) ∧ Fr (fun _ => False) w w' := by
  obtain ⟨aL, cL, ha⟩ := ha.sl
  obtain ⟨aM, cM, hb⟩ := hb.sl
  obtain ⟨z, hz⟩ : ∃ z, z = w.heap.size := ⟨_, rfl⟩
  have HZ := Lib.hid hz
  have F0 : Fr (fun _ => False) w (w.alloc (.cells #[.bool false] 4)) := (Fr.refl w).alloc _
  have BZ := Blk.new w 4 #[.bool false]
  rw [← hz] at BZ
  have HSD := Lib.hid (side_any va vb aL aM cL cM L M w _ F0 ha hb hsL hsM)
  have HSL := Lib.hid ha.slots
  have HSM := Lib.hid hb.slots
  have HF0 := Lib.hid F0
  have h3 : ∃ p, va = .pointer p := by
    rcases ha with ⟨rfl, -⟩ | ⟨b, rfl, -⟩
    · exact ⟨_, rfl⟩
    · exact ⟨_, rfl⟩
  have h4 : ∃ p, vb = .pointer p := by
    rcases hb with ⟨rfl, -⟩ | ⟨b, rfl, -⟩
    · exact ⟨_, rfl⟩
    · exact ⟨_, rfl⟩
  have HEQ : Hid (sameS L M = (sideR L M).all sameP) := Lib.hid rfl
  clear ha hb hsL hsM F0 h3 h4 hz
  refine (callsIn_wide (n := 3)).1 ?_
  refine callsIn_of_wp_marks Tryz.func22 rfl trivial ?_ rfl
  simp only [Tryz.ntmps22, List.size_toArray, List.length_cons, List.length_nil, Nat.reduceAdd, Nat.reduceSub, Array.replicate_succ, Array.replicate_zero, List.push_toArray, List.append_toArray, List.nil_append, List.cons_append]
  gi_upto_region 1 with fail
  rw [← HZ.out]
  generalize (w.alloc (.cells #[.bool false] 4)) = w0 at *
  gi_wp2_with (refine ⟨trivial, ?_⟩; gi_at_call 49; refine (callsIn_wide.2 HSD.out).mono ?_; rintro e w2 ⟨⟨ba, bb, rfl, h1, h2, h3, h4, hit⟩, F2⟩)
  have lz := BZ.lt
  have BZ2 := BZ.fr F2 (fun h => h)
  have HF2 := Lib.hid (HF0.out.trans F2)
  have HBA := Lib.hid (show z < ba ∧ z < bb ∧ ba < w2.heap.size ∧ bb < w2.heap.size from ⟨by omega, by omega, h3, h4⟩)
  have HIT := Lib.hid hit
  clear HSD hit h1 h2 h3 h4 F2 BZ lz
  refine range_lawW (gf := 81) (lb := #[pt ba, pt bb]) rfl (enters_of Tryz.func81 (by kernel_rfl) rfl) (C := fun k => k = ba ∨ k = bb) (base := w.heap.size) (fun k hk => by have := HBA.out; rcases hk with hk | hk <;> omega) HF2.out.size HIT.out rfl
    (fun pre W => Blk W z 4 #[.bool false] ∧ Fr (fun _ => False) w W ∧ ((sideR L M).take pre.length).all sameP = true)
    (fun c pre W => c = .ret ∧ Blk W z 4 #[.bool false] ∧ Fr (fun _ => False) w W ∧ sameS L M = false)
    (fun s A B h f => ⟨h.1.fr f (by have := HBA.out; omega), h.2.1.trans' f (fun i hi e => by have := HBA.out; have := HZ.out; have := HF2.out.size; omega), h.2.2⟩)
    (fun c s A B h f => ⟨h.1, h.2.1.fr f (by have := HBA.out; omega), h.2.2.1.trans' f (fun i hi e => by have := HBA.out; have := HZ.out; have := HF2.out.size; omega), h.2.2.2⟩)
    ⟨BZ2, HF2.out, by simp⟩
    (fun x W => { tmps := #[va, vb, undef, undef, .pointer (some ⟨z, 0, none⟩), .pointer (some ⟨W.heap.size, 0, none⟩), va, vb, .func (.func 81) #[] #[pt ba, pt bb], x, undef, undef, undef, undef, undef, undef, undef, undef, undef, undef, undef, undef, undef, undef, undef, undef, undef, undef, undef, undef, undef, undef], defers := [] }) (fun x W => W.alloc (.cells x.cells 95)) (fun x W => (Fr.refl W).alloc _) ?assign ?body ?done ?stop
  case assign =>
    intro l pre x rest W K hx hK
    obtain ⟨p, q, rfl⟩ := pair_form hx
    gi_wp2
    exact hK
  case body =>
    rintro l pre x rest W W2 hx ⟨BZ, F, hall⟩ hE F2
    obtain ⟨p, hp1, rfl, hp2, hcase⟩ := pair_at hx
    obtain ⟨y, hy⟩ : ∃ y, y = W.heap.size := ⟨_, rfl⟩
    have HY := Lib.hid hy
    have FA : Fr (fun _ => False) W (W.alloc (.cells (pairV aL aM p).cells 95)) := (Fr.refl W).alloc _
    have BY : Blk W2 W.heap.size 95 (pairV aL aM p).cells := (Blk.new W 95 _).fr F2 (by omega)
    have hz2 := HF2.out.size
    have FW2 : Fr (fun _ => False) w W2 := (F.trans FA).trans' F2 (fun i hi e => by have e2 : i = w2.heap.size + 1 := e; omega)
    have BZ2 : Blk W2 z 4 #[.bool false] := (BZ.fr FA (fun h => h)).fr F2 (by have := HBA.out; omega)
    have hmem := List.mem_of_getElem? hp2
    have HMEM := Lib.hid hmem
    have HTK := Lib.hid (take_more hp2)
    have HALL := Lib.hid hall
    have HPL := Lib.hid (show (pre ++ [pairV aL aM p]).length = pre.length + 1 by rw [List.length_append]; rfl)
    have HFP : Hid (sameP (atP L M p) = false → sameS L M = false) := Lib.hid (fun h => by rw [HEQ.out, List.all_eq_false]; exact ⟨_, HMEM.out, by rw [h]; simp⟩)
    rw [← hy] at BY ⊢
    clear hx hp2 hmem hall F FA F2 hz2 hE HIT hy
    rcases hcase with ⟨i, r, rfl, hi⟩ | ⟨j, s, rfl, hj⟩ | ⟨i, j, r, s, rfl, hi, hj⟩
    · obtain ⟨b, o, us, haL, -⟩ := slot_row HSL.out hi
      have HFS := Lib.hid (HFP.out (by simp [atP, hi, sameP]))
      rw [pairV_l haL] at BY ⊢
      clear hi haL HFP HALL HTK hp1
      simp only [Value.cells] at BY
      have p0 := BY.drew.cell 0
      have p1 := BY.drew.cell 1
      simp only [List.getElem?_toArray, List.getElem?_cons_succ, List.getElem?_cons_zero] at p0 p1
      have HB2 := Lib.hid BZ2.drew
      have HG := Lib.hid (FW2.drew (S := fun _ => False))
      have z0 := HB2.out.cell 0
      have f0 := HB2.out.frozen 0
      simp only [List.getElem?_toArray, List.getElem?_cons_succ, List.getElem?_cons_zero] at z0
      clear BZ BZ2 BY FW2
      gi_upto_region 3 with fail
      refine wpIn_region_N 22 (S := fun w' => w'.cell? ⟨y, 0, none⟩ = some (.pointer (some ⟨b, o + i * 7, none⟩)) ∧ w'.cell? ⟨y, 1, none⟩ = some (.pointer none)) (by kernel_rfl) (by kernel_rfl) (by rintro ⟨a, w, h⟩; exact h) ?_ (fun hHeld => ?_)
      · exact ⟨p0, p1⟩
      refine wpAnyN_take (i := 0) (oi := _) (v := ?_) rfl (by kernel_rfl) (by kernel_rfl) (by kernel_rfl) (by kernel_rfl) (fun _ _ _ h => h) (Or.inl ⟨by rfl, ?_⟩) (by assumption) ?_
      rotate_left
      · (intro W hSw; (try dsimp only at hSw); go_simp; try with_reducible rfl)
      (try simp only [Act.put, List.setIfInBounds_toArray, List.set_cons_zero, List.set_cons_succ])
      refine wpAnyN_take (i := 1) (oi := _) (v := ?_) rfl (by kernel_rfl) (by kernel_rfl) (by kernel_rfl) (by kernel_rfl) (fun _ _ _ h => h) (Or.inl ⟨by rfl, ?_⟩) (by assumption) ?_
      rotate_left
      · (intro W hSw; (try dsimp only at hSw); go_simp; try with_reducible rfl)
      (try simp only [Act.put, List.setIfInBounds_toArray, List.set_cons_zero, List.set_cons_succ])
      refine wpAnyN_take (i := 2) (oi := _) (v := ?_) rfl (by kernel_rfl) (by kernel_rfl) (by kernel_rfl) (by kernel_rfl) (fun _ _ _ h => h) (Or.inl ⟨by rfl, ?_⟩) (by assumption) ?_
      rotate_left
      · (intro W hSw; (try dsimp only at hSw); go_simp; try with_reducible rfl)
      (try simp only [Act.put, List.setIfInBounds_toArray, List.set_cons_zero, List.set_cons_succ])
      refine wpAnyN_take (i := 3) (oi := _) (v := ?_) rfl (by kernel_rfl) (by kernel_rfl) (by kernel_rfl) (by kernel_rfl) (fun _ _ _ h => h) (Or.inl ⟨by rfl, ?_⟩) (by assumption) ?_
      rotate_left
      · (intro W hSw; (try dsimp only at hSw); go_simp; try with_reducible rfl)
      (try simp only [Act.put, List.setIfInBounds_toArray, List.set_cons_zero, List.set_cons_succ])
      refine wpAnyN_take (i := 4) (oi := _) (v := ?_) rfl (by kernel_rfl) (by kernel_rfl) (by kernel_rfl) (by kernel_rfl) (fun _ _ _ h => h) (Or.inl ⟨by rfl, ?_⟩) (by assumption) ?_
      rotate_left
      · (intro W hSw; (try dsimp only at hSw); go_simp; try with_reducible rfl)
      (try simp only [Act.put, List.setIfInBounds_toArray, List.set_cons_zero, List.set_cons_succ])
      refine wpAnyN_take (i := 5) (oi := _) (v := ?_) rfl (by kernel_rfl) (by kernel_rfl) (by kernel_rfl) (by kernel_rfl) (fun _ _ _ h => h) (Or.inl ⟨by rfl, ?_⟩) (by assumption) ?_
      rotate_left
      · (intro W hSw; (try dsimp only at hSw); go_simp; try with_reducible rfl)
      (try simp only [Act.put, List.setIfInBounds_toArray, List.set_cons_zero, List.set_cons_succ])
      refine wpAnyN_take (i := 6) (oi := _) (v := ?_) rfl (by kernel_rfl) (by kernel_rfl) (by kernel_rfl) (by kernel_rfl) (fun _ _ _ h => h) (Or.inl ⟨by rfl, ?_⟩) (by assumption) ?_
      rotate_left
      · (intro W hSw; (try dsimp only at hSw); go_simp; try with_reducible rfl)
      (try simp only [Act.put, List.setIfInBounds_toArray, List.set_cons_zero, List.set_cons_succ])
      refine wpAnyN_take (i := 7) (oi := _) (v := ?_) rfl (by kernel_rfl) (by kernel_rfl) (by kernel_rfl) (by kernel_rfl) (fun _ _ _ h => h) (Or.inl ⟨by rfl, ?_⟩) (by assumption) ?_
      rotate_left
      · (intro W hSw; (try dsimp only at hSw); go_simp; try with_reducible rfl)
      (try simp only [Act.put, List.setIfInBounds_toArray, List.set_cons_zero, List.set_cons_succ])
      refine wpAnyN_take (i := 8) (oi := _) (v := ?_) rfl (by kernel_rfl) (by kernel_rfl) (by kernel_rfl) (by kernel_rfl) (fun _ _ _ h => h) (Or.inl ⟨by rfl, ?_⟩) (by assumption) ?_
      rotate_left
      · (intro W hSw; (try dsimp only at hSw); go_simp; try with_reducible rfl)
      (try simp only [Act.put, List.setIfInBounds_toArray, List.set_cons_zero, List.set_cons_succ])
      refine wpAnyN_take (i := 9) (oi := _) (v := undef) rfl (by kernel_rfl) (by kernel_rfl) (by kernel_rfl) (by kernel_rfl) (fun _ _ _ h => h) (Or.inr ⟨by kernel_rfl, rfl⟩) (by assumption) ?_
      (try simp only [Act.put, List.getElem_toArray, List.getElem_cons_succ, List.getElem_cons_zero, List.setIfInBounds_toArray, List.set_cons_zero, List.set_cons_succ])
      refine wpAnyN_take (i := 10) (oi := _) (v := undef) rfl (by kernel_rfl) (by kernel_rfl) (by kernel_rfl) (by kernel_rfl) (fun _ _ _ h => h) (Or.inr ⟨by kernel_rfl, rfl⟩) (by assumption) ?_
      (try simp only [Act.put, List.getElem_toArray, List.getElem_cons_succ, List.getElem_cons_zero, List.setIfInBounds_toArray, List.set_cons_zero, List.set_cons_succ])
      refine wpAnyN_take (i := 11) (oi := _) (v := undef) rfl (by kernel_rfl) (by kernel_rfl) (by kernel_rfl) (by kernel_rfl) (fun _ _ _ h => h) (Or.inr ⟨by kernel_rfl, rfl⟩) (by assumption) ?_
      (try simp only [Act.put, List.getElem_toArray, List.getElem_cons_succ, List.getElem_cons_zero, List.setIfInBounds_toArray, List.set_cons_zero, List.set_cons_succ])
      refine wpAnyN_take (i := 12) (oi := _) (v := undef) rfl (by kernel_rfl) (by kernel_rfl) (by kernel_rfl) (by kernel_rfl) (fun _ _ _ h => h) (Or.inr ⟨by kernel_rfl, rfl⟩) (by assumption) ?_
      (try simp only [Act.put, List.getElem_toArray, List.getElem_cons_succ, List.getElem_cons_zero, List.setIfInBounds_toArray, List.set_cons_zero, List.set_cons_succ])
      refine wpAnyN_take (i := 13) (oi := _) (v := undef) rfl (by kernel_rfl) (by kernel_rfl) (by kernel_rfl) (by kernel_rfl) (fun _ _ _ h => h) (Or.inr ⟨by kernel_rfl, rfl⟩) (by assumption) ?_
      (try simp only [Act.put, List.getElem_toArray, List.getElem_cons_succ, List.getElem_cons_zero, List.setIfInBounds_toArray, List.set_cons_zero, List.set_cons_succ])
      refine wpAnyN_take (i := 14) (oi := _) (v := undef) rfl (by kernel_rfl) (by kernel_rfl) (by kernel_rfl) (by kernel_rfl) (fun _ _ _ h => h) (Or.inr ⟨by kernel_rfl, rfl⟩) (by assumption) ?_
      (try simp only [Act.put, List.getElem_toArray, List.getElem_cons_succ, List.getElem_cons_zero, List.setIfInBounds_toArray, List.set_cons_zero, List.set_cons_succ])
      refine wpAnyN_take (i := 15) (oi := _) (v := undef) rfl (by kernel_rfl) (by kernel_rfl) (by kernel_rfl) (by kernel_rfl) (fun _ _ _ h => h) (Or.inr ⟨by kernel_rfl, rfl⟩) (by assumption) ?_
      (try simp only [Act.put, List.getElem_toArray, List.getElem_cons_succ, List.getElem_cons_zero, List.setIfInBounds_toArray, List.set_cons_zero, List.set_cons_succ])
      refine wpAnyN_take (i := 16) (oi := _) (v := undef) rfl (by kernel_rfl) (by kernel_rfl) (by kernel_rfl) (by kernel_rfl) (fun _ _ _ h => h) (Or.inr ⟨by kernel_rfl, rfl⟩) (by assumption) ?_
      (try simp only [Act.put, List.getElem_toArray, List.getElem_cons_succ, List.getElem_cons_zero, List.setIfInBounds_toArray, List.set_cons_zero, List.set_cons_succ])
      refine wpAnyN_take (i := 17) (oi := _) (v := undef) rfl (by kernel_rfl) (by kernel_rfl) (by kernel_rfl) (by kernel_rfl) (fun _ _ _ h => h) (Or.inr ⟨by kernel_rfl, rfl⟩) (by assumption) ?_
      (try simp only [Act.put, List.getElem_toArray, List.getElem_cons_succ, List.getElem_cons_zero, List.setIfInBounds_toArray, List.set_cons_zero, List.set_cons_succ])
      refine wpAnyN_take (i := 18) (oi := _) (v := undef) rfl (by kernel_rfl) (by kernel_rfl) (by kernel_rfl) (by kernel_rfl) (fun _ _ _ h => h) (Or.inr ⟨by kernel_rfl, rfl⟩) (by assumption) ?_
      (try simp only [Act.put, List.getElem_toArray, List.getElem_cons_succ, List.getElem_cons_zero, List.setIfInBounds_toArray, List.set_cons_zero, List.set_cons_succ])
      refine wpAnyN_take (i := 19) (oi := _) (v := undef) rfl (by kernel_rfl) (by kernel_rfl) (by kernel_rfl) (by kernel_rfl) (fun _ _ _ h => h) (Or.inr ⟨by kernel_rfl, rfl⟩) (by assumption) ?_
      (try simp only [Act.put, List.getElem_toArray, List.getElem_cons_succ, List.getElem_cons_zero, List.setIfInBounds_toArray, List.set_cons_zero, List.set_cons_succ])
      refine wpAnyN_take (i := 20) (oi := _) (v := undef) rfl (by kernel_rfl) (by kernel_rfl) (by kernel_rfl) (by kernel_rfl) (fun _ _ _ h => h) (Or.inr ⟨by kernel_rfl, rfl⟩) (by assumption) ?_
      (try simp only [Act.put, List.getElem_toArray, List.getElem_cons_succ, List.getElem_cons_zero, List.setIfInBounds_toArray, List.set_cons_zero, List.set_cons_succ])
      refine wpAnyN_take (i := 21) (oi := _) (v := ?_) rfl (by kernel_rfl) (by kernel_rfl) (by kernel_rfl) (by kernel_rfl) (fun _ _ _ h => h) (Or.inl ⟨by rfl, ?_⟩) (by assumption) ?_
      rotate_left
      · (intro W hSw; (try dsimp only at hSw); go_simp; try with_reducible rfl)
      (try simp only [Act.put, List.setIfInBounds_toArray, List.set_cons_zero, List.set_cons_succ])
      refine wpAnyN_done (by kernel_rfl) ?_ _
      gi_wp2
      have F4 : Fr (fun k => k = z) W2.drew (W2.drew.setCell ⟨z, 0, none⟩ (.bool false)) := Fr.setCell (S := fun k => k = z) (p := ⟨z, 0, none⟩) (Fr.refl _) (fun _ => rfl) _
      have B4 := HB2.out.set 0 (.bool false)
      simp at B4
      exact ⟨((Fr.refl W2).drew).trans (F4.mono (fun k _ e => by have := HBA.out; have := HZ.out; have e2 : k = z := e; exact ⟨by omega, by omega, by omega, by omega⟩)), rfl, B4, HG.out.trans' F4 (fun i hi e => by have e2 : i = z := e; have := HZ.out; omega), HFS.out⟩
    · obtain ⟨b, o, us, haM, -⟩ := slot_row HSM.out hj
      have HFS := Lib.hid (HFP.out (by simp [atP, hj, sameP]))
      rw [pairV_r haM] at BY ⊢
      clear hj haM HFP HALL HTK hp1
      simp only [Value.cells] at BY
      have p0 := BY.drew.cell 0
      have p1 := BY.drew.cell 1
      simp only [List.getElem?_toArray, List.getElem?_cons_succ, List.getElem?_cons_zero] at p0 p1
      have HB2 := Lib.hid BZ2.drew
      have HG := Lib.hid (FW2.drew (S := fun _ => False))
      have z0 := HB2.out.cell 0
      have f0 := HB2.out.frozen 0
      simp only [List.getElem?_toArray, List.getElem?_cons_succ, List.getElem?_cons_zero] at z0
      clear BZ BZ2 BY FW2
      gi_upto_region 3 with fail
      refine wpIn_region_N 22 (S := fun w' => w'.cell? ⟨y, 0, none⟩ = some (.pointer none) ∧ w'.cell? ⟨y, 1, none⟩ = some (.pointer (some ⟨b, o + j * 7, none⟩))) (by kernel_rfl) (by kernel_rfl) (by rintro ⟨a, w, h⟩; exact h) ?_ (fun hHeld => ?_)
      · exact ⟨p0, p1⟩
      refine wpAnyN_take (i := 0) (oi := _) (v := ?_) rfl (by kernel_rfl) (by kernel_rfl) (by kernel_rfl) (by kernel_rfl) (fun _ _ _ h => h) (Or.inl ⟨by rfl, ?_⟩) (by assumption) ?_
      rotate_left
      · (intro W hSw; (try dsimp only at hSw); go_simp; try with_reducible rfl)
      (try simp only [Act.put, List.setIfInBounds_toArray, List.set_cons_zero, List.set_cons_succ])
      refine wpAnyN_take (i := 1) (oi := _) (v := ?_) rfl (by kernel_rfl) (by kernel_rfl) (by kernel_rfl) (by kernel_rfl) (fun _ _ _ h => h) (Or.inl ⟨by rfl, ?_⟩) (by assumption) ?_
      rotate_left
      · (intro W hSw; (try dsimp only at hSw); go_simp; try with_reducible rfl)
      (try simp only [Act.put, List.setIfInBounds_toArray, List.set_cons_zero, List.set_cons_succ])
      refine wpAnyN_take (i := 2) (oi := _) (v := ?_) rfl (by kernel_rfl) (by kernel_rfl) (by kernel_rfl) (by kernel_rfl) (fun _ _ _ h => h) (Or.inl ⟨by rfl, ?_⟩) (by assumption) ?_
      rotate_left
      · (intro W hSw; (try dsimp only at hSw); go_simp; try with_reducible rfl)
      (try simp only [Act.put, List.setIfInBounds_toArray, List.set_cons_zero, List.set_cons_succ])
      refine wpAnyN_take (i := 3) (oi := _) (v := ?_) rfl (by kernel_rfl) (by kernel_rfl) (by kernel_rfl) (by kernel_rfl) (fun _ _ _ h => h) (Or.inl ⟨by rfl, ?_⟩) (by assumption) ?_
      rotate_left
      · (intro W hSw; (try dsimp only at hSw); go_simp; try with_reducible rfl)
      (try simp only [Act.put, List.setIfInBounds_toArray, List.set_cons_zero, List.set_cons_succ])
      refine wpAnyN_take (i := 4) (oi := _) (v := undef) rfl (by kernel_rfl) (by kernel_rfl) (by kernel_rfl) (by kernel_rfl) (fun _ _ _ h => h) (Or.inr ⟨by kernel_rfl, rfl⟩) (by assumption) ?_
      (try simp only [Act.put, List.getElem_toArray, List.getElem_cons_succ, List.getElem_cons_zero, List.setIfInBounds_toArray, List.set_cons_zero, List.set_cons_succ])
      refine wpAnyN_take (i := 5) (oi := _) (v := undef) rfl (by kernel_rfl) (by kernel_rfl) (by kernel_rfl) (by kernel_rfl) (fun _ _ _ h => h) (Or.inr ⟨by kernel_rfl, rfl⟩) (by assumption) ?_
      (try simp only [Act.put, List.getElem_toArray, List.getElem_cons_succ, List.getElem_cons_zero, List.setIfInBounds_toArray, List.set_cons_zero, List.set_cons_succ])
      refine wpAnyN_take (i := 6) (oi := _) (v := undef) rfl (by kernel_rfl) (by kernel_rfl) (by kernel_rfl) (by kernel_rfl) (fun _ _ _ h => h) (Or.inr ⟨by kernel_rfl, rfl⟩) (by assumption) ?_
      (try simp only [Act.put, List.getElem_toArray, List.getElem_cons_succ, List.getElem_cons_zero, List.setIfInBounds_toArray, List.set_cons_zero, List.set_cons_succ])
      refine wpAnyN_take (i := 7) (oi := _) (v := ?_) rfl (by kernel_rfl) (by kernel_rfl) (by kernel_rfl) (by kernel_rfl) (fun _ _ _ h => h) (Or.inl ⟨by rfl, ?_⟩) (by assumption) ?_
      rotate_left
      · (intro W hSw; (try dsimp only at hSw); go_simp; try with_reducible rfl)
      (try simp only [Act.put, List.setIfInBounds_toArray, List.set_cons_zero, List.set_cons_succ])
      refine wpAnyN_take (i := 8) (oi := _) (v := ?_) rfl (by kernel_rfl) (by kernel_rfl) (by kernel_rfl) (by kernel_rfl) (fun _ _ _ h => h) (Or.inl ⟨by rfl, ?_⟩) (by assumption) ?_
      rotate_left
      · (intro W hSw; (try dsimp only at hSw); go_simp; try with_reducible rfl)
      (try simp only [Act.put, List.setIfInBounds_toArray, List.set_cons_zero, List.set_cons_succ])
      refine wpAnyN_take (i := 9) (oi := _) (v := undef) rfl (by kernel_rfl) (by kernel_rfl) (by kernel_rfl) (by kernel_rfl) (fun _ _ _ h => h) (Or.inr ⟨by kernel_rfl, rfl⟩) (by assumption) ?_
      (try simp only [Act.put, List.getElem_toArray, List.getElem_cons_succ, List.getElem_cons_zero, List.setIfInBounds_toArray, List.set_cons_zero, List.set_cons_succ])
      refine wpAnyN_take (i := 10) (oi := _) (v := undef) rfl (by kernel_rfl) (by kernel_rfl) (by kernel_rfl) (by kernel_rfl) (fun _ _ _ h => h) (Or.inr ⟨by kernel_rfl, rfl⟩) (by assumption) ?_
      (try simp only [Act.put, List.getElem_toArray, List.getElem_cons_succ, List.getElem_cons_zero, List.setIfInBounds_toArray, List.set_cons_zero, List.set_cons_succ])
      refine wpAnyN_take (i := 11) (oi := _) (v := undef) rfl (by kernel_rfl) (by kernel_rfl) (by kernel_rfl) (by kernel_rfl) (fun _ _ _ h => h) (Or.inr ⟨by kernel_rfl, rfl⟩) (by assumption) ?_
      (try simp only [Act.put, List.getElem_toArray, List.getElem_cons_succ, List.getElem_cons_zero, List.setIfInBounds_toArray, List.set_cons_zero, List.set_cons_succ])
      refine wpAnyN_take (i := 12) (oi := _) (v := undef) rfl (by kernel_rfl) (by kernel_rfl) (by kernel_rfl) (by kernel_rfl) (fun _ _ _ h => h) (Or.inr ⟨by kernel_rfl, rfl⟩) (by assumption) ?_
      (try simp only [Act.put, List.getElem_toArray, List.getElem_cons_succ, List.getElem_cons_zero, List.setIfInBounds_toArray, List.set_cons_zero, List.set_cons_succ])
      refine wpAnyN_take (i := 13) (oi := _) (v := undef) rfl (by kernel_rfl) (by kernel_rfl) (by kernel_rfl) (by kernel_rfl) (fun _ _ _ h => h) (Or.inr ⟨by kernel_rfl, rfl⟩) (by assumption) ?_
      (try simp only [Act.put, List.getElem_toArray, List.getElem_cons_succ, List.getElem_cons_zero, List.setIfInBounds_toArray, List.set_cons_zero, List.set_cons_succ])
      refine wpAnyN_take (i := 14) (oi := _) (v := undef) rfl (by kernel_rfl) (by kernel_rfl) (by kernel_rfl) (by kernel_rfl) (fun _ _ _ h => h) (Or.inr ⟨by kernel_rfl, rfl⟩) (by assumption) ?_
      (try simp only [Act.put, List.getElem_toArray, List.getElem_cons_succ, List.getElem_cons_zero, List.setIfInBounds_toArray, List.set_cons_zero, List.set_cons_succ])
      refine wpAnyN_take (i := 15) (oi := _) (v := undef) rfl (by kernel_rfl) (by kernel_rfl) (by kernel_rfl) (by kernel_rfl) (fun _ _ _ h => h) (Or.inr ⟨by kernel_rfl, rfl⟩) (by assumption) ?_
      (try simp only [Act.put, List.getElem_toArray, List.getElem_cons_succ, List.getElem_cons_zero, List.setIfInBounds_toArray, List.set_cons_zero, List.set_cons_succ])
      refine wpAnyN_take (i := 16) (oi := _) (v := undef) rfl (by kernel_rfl) (by kernel_rfl) (by kernel_rfl) (by kernel_rfl) (fun _ _ _ h => h) (Or.inr ⟨by kernel_rfl, rfl⟩) (by assumption) ?_
      (try simp only [Act.put, List.getElem_toArray, List.getElem_cons_succ, List.getElem_cons_zero, List.setIfInBounds_toArray, List.set_cons_zero, List.set_cons_succ])
      refine wpAnyN_take (i := 17) (oi := _) (v := undef) rfl (by kernel_rfl) (by kernel_rfl) (by kernel_rfl) (by kernel_rfl) (fun _ _ _ h => h) (Or.inr ⟨by kernel_rfl, rfl⟩) (by assumption) ?_
      (try simp only [Act.put, List.getElem_toArray, List.getElem_cons_succ, List.getElem_cons_zero, List.setIfInBounds_toArray, List.set_cons_zero, List.set_cons_succ])
      refine wpAnyN_take (i := 18) (oi := _) (v := undef) rfl (by kernel_rfl) (by kernel_rfl) (by kernel_rfl) (by kernel_rfl) (fun _ _ _ h => h) (Or.inr ⟨by kernel_rfl, rfl⟩) (by assumption) ?_
      (try simp only [Act.put, List.getElem_toArray, List.getElem_cons_succ, List.getElem_cons_zero, List.setIfInBounds_toArray, List.set_cons_zero, List.set_cons_succ])
      refine wpAnyN_take (i := 19) (oi := _) (v := undef) rfl (by kernel_rfl) (by kernel_rfl) (by kernel_rfl) (by kernel_rfl) (fun _ _ _ h => h) (Or.inr ⟨by kernel_rfl, rfl⟩) (by assumption) ?_
      (try simp only [Act.put, List.getElem_toArray, List.getElem_cons_succ, List.getElem_cons_zero, List.setIfInBounds_toArray, List.set_cons_zero, List.set_cons_succ])
      refine wpAnyN_take (i := 20) (oi := _) (v := undef) rfl (by kernel_rfl) (by kernel_rfl) (by kernel_rfl) (by kernel_rfl) (fun _ _ _ h => h) (Or.inr ⟨by kernel_rfl, rfl⟩) (by assumption) ?_
      (try simp only [Act.put, List.getElem_toArray, List.getElem_cons_succ, List.getElem_cons_zero, List.setIfInBounds_toArray, List.set_cons_zero, List.set_cons_succ])
      refine wpAnyN_take (i := 21) (oi := _) (v := ?_) rfl (by kernel_rfl) (by kernel_rfl) (by kernel_rfl) (by kernel_rfl) (fun _ _ _ h => h) (Or.inl ⟨by rfl, ?_⟩) (by assumption) ?_
      rotate_left
      · (intro W hSw; (try dsimp only at hSw); go_simp; try with_reducible rfl)
      (try simp only [Act.put, List.setIfInBounds_toArray, List.set_cons_zero, List.set_cons_succ])
      refine wpAnyN_done (by kernel_rfl) ?_ _
      gi_wp2
      have F4 : Fr (fun k => k = z) W2.drew (W2.drew.setCell ⟨z, 0, none⟩ (.bool false)) := Fr.setCell (S := fun k => k = z) (p := ⟨z, 0, none⟩) (Fr.refl _) (fun _ => rfl) _
      have B4 := HB2.out.set 0 (.bool false)
      simp at B4
      exact ⟨((Fr.refl W2).drew).trans (F4.mono (fun k _ e => by have := HBA.out; have := HZ.out; have e2 : k = z := e; exact ⟨by omega, by omega, by omega, by omega⟩)), rfl, B4, HG.out.trans' F4 (fun i hi e => by have e2 : i = z := e; have := HZ.out; omega), HFS.out⟩
    · obtain ⟨b, o, us, haL, hus, hRx, -, -, hcx⟩ := slot_row HSL.out hi
      obtain ⟨b', o', vs, haM, hvs, hRy, -, -, hcy⟩ := slot_row HSM.out hj
      have hat : atP L M (some i, some j) = (some r, some s) := by simp [atP, hi, hj]
      rw [hat] at HFP HTK
      obtain ⟨m, hm⟩ : ∃ m, m = likeR r s := ⟨_, rfl⟩
      have HFP2 : Hid (m = false → sameS L M = false) := Lib.hid (fun h => HFP.out (by simp only [sameP]; rw [← hm]; exact h))
      have HTK2 : Hid (m = true → ((sideR L M).take (pre.length + 1)).all sameP = true) := Lib.hid (fun h => by rw [HTK.out, List.all_append, HALL.out]; simp [sameP, ← hm, h])
      rw [pairV_b haL haM] at BY ⊢
      simp only [Value.cells] at BY
      obtain ⟨u0, u1, u2, u3, u4, u5, rfl⟩ := six_of hus
      obtain ⟨v0, v1, v2, v3, v4, v5, rfl⟩ := six_of hvs
      have HLK := Lib.hid (like_any _ _ r s W2.drew (RRow.old _ _ _ _ hRx FW2.drew) (RRow.old _ _ _ _ hRy FW2.drew))
      rw [← hm] at HLK
      have HFW := Lib.hid (FW2.drew (S := fun _ => False))
      have x0 := HFW.out.cell (hcx 0 _ rfl) (fun h => h)
      have x1 := HFW.out.cell (hcx 1 _ rfl) (fun h => h)
      have x2 := HFW.out.cell (hcx 2 _ rfl) (fun h => h)
      have x3 := HFW.out.cell (hcx 3 _ rfl) (fun h => h)
      have x4 := HFW.out.cell (hcx 4 _ rfl) (fun h => h)
      have x5 := HFW.out.cell (hcx 5 _ rfl) (fun h => h)
      have y0 := HFW.out.cell (hcy 0 _ rfl) (fun h => h)
      have y1 := HFW.out.cell (hcy 1 _ rfl) (fun h => h)
      have y2 := HFW.out.cell (hcy 2 _ rfl) (fun h => h)
      have y3 := HFW.out.cell (hcy 3 _ rfl) (fun h => h)
      have y4 := HFW.out.cell (hcy 4 _ rfl) (fun h => h)
      have y5 := HFW.out.cell (hcy 5 _ rfl) (fun h => h)
      simp only [Nat.add_zero] at x0 y0
      have p0 := BY.drew.cell 0
      have p1 := BY.drew.cell 1
      simp only [List.getElem?_toArray, List.getElem?_cons_succ, List.getElem?_cons_zero] at p0 p1
      have HB2 := Lib.hid BZ2.drew
      have HKE := Lib.hid (fun W (F : Fr (fun _ => False) W2.drew W) => show (W.cell? ⟨y, 0, none⟩ = some (.pointer (some ⟨b, o + i * 7, none⟩)) ∧ W.cell? ⟨y, 1, none⟩ = some (.pointer (some ⟨b', o' + j * 7, none⟩))) ∧ (W.cell? ⟨b, o + i * 7 + 1, none⟩ = some u0 ∧ W.cell? ⟨b, o + i * 7 + 1 + 1, none⟩ = some u1 ∧ W.cell? ⟨b, o + i * 7 + 1 + 2, none⟩ = some u2 ∧ W.cell? ⟨b, o + i * 7 + 1 + 3, none⟩ = some u3 ∧ W.cell? ⟨b, o + i * 7 + 1 + 4, none⟩ = some u4 ∧ W.cell? ⟨b, o + i * 7 + 1 + 5, none⟩ = some u5) ∧ W.cell? ⟨b', o' + j * 7 + 1, none⟩ = some v0 ∧ W.cell? ⟨b', o' + j * 7 + 1 + 1, none⟩ = some v1 ∧ W.cell? ⟨b', o' + j * 7 + 1 + 2, none⟩ = some v2 ∧ W.cell? ⟨b', o' + j * 7 + 1 + 3, none⟩ = some v3 ∧ W.cell? ⟨b', o' + j * 7 + 1 + 4, none⟩ = some v4 ∧ W.cell? ⟨b', o' + j * 7 + 1 + 5, none⟩ = some v5 from ⟨⟨F.cell p0 (fun h => h), F.cell p1 (fun h => h)⟩, ⟨F.cell x0 (fun h => h), F.cell x1 (fun h => h), F.cell x2 (fun h => h), F.cell x3 (fun h => h), F.cell x4 (fun h => h), F.cell x5 (fun h => h)⟩, F.cell y0 (fun h => h), F.cell y1 (fun h => h), F.cell y2 (fun h => h), F.cell y3 (fun h => h), F.cell y4 (fun h => h), F.cell y5 (fun h => h)⟩)
      clear BZ BZ2 BY FW2 hm hat HFP HTK HALL hRx hRy hcx hcy hus hvs hi hj hp1 haL haM
      gi_upto_region 3 with fail
      cases m with
      | false =>
        refine wpIn_region_N 22 (S := fun w' => (w'.cell? ⟨y, 0, none⟩ = some (.pointer (some ⟨b, o + i * 7, none⟩)) ∧ w'.cell? ⟨y, 1, none⟩ = some (.pointer (some ⟨b', o' + j * 7, none⟩))) ∧ (w'.cell? ⟨b, o + i * 7 + 1, none⟩ = some u0 ∧ w'.cell? ⟨b, o + i * 7 + 1 + 1, none⟩ = some u1 ∧ w'.cell? ⟨b, o + i * 7 + 1 + 2, none⟩ = some u2 ∧ w'.cell? ⟨b, o + i * 7 + 1 + 3, none⟩ = some u3 ∧ w'.cell? ⟨b, o + i * 7 + 1 + 4, none⟩ = some u4 ∧ w'.cell? ⟨b, o + i * 7 + 1 + 5, none⟩ = some u5) ∧ w'.cell? ⟨b', o' + j * 7 + 1, none⟩ = some v0 ∧ w'.cell? ⟨b', o' + j * 7 + 1 + 1, none⟩ = some v1 ∧ w'.cell? ⟨b', o' + j * 7 + 1 + 2, none⟩ = some v2 ∧ w'.cell? ⟨b', o' + j * 7 + 1 + 3, none⟩ = some v3 ∧ w'.cell? ⟨b', o' + j * 7 + 1 + 4, none⟩ = some v4 ∧ w'.cell? ⟨b', o' + j * 7 + 1 + 5, none⟩ = some v5) (by kernel_rfl) (by kernel_rfl) (by rintro ⟨a, w, h⟩; exact h) ?_ (fun hHeld => ?_)
        · exact ⟨⟨p0, p1⟩, ⟨x0, x1, x2, x3, x4, x5⟩, y0, y1, y2, y3, y4, y5⟩
        refine wpAnyN_take (i := 0) (oi := _) (v := ?_) rfl (by kernel_rfl) (by kernel_rfl) (by kernel_rfl) (by kernel_rfl) (fun _ _ _ h => h) (Or.inl ⟨by rfl, ?_⟩) (by assumption) ?_
        rotate_left
        · (intro W hSw; (try dsimp only at hSw); go_simp; try with_reducible rfl)
        (try simp only [Act.put, List.setIfInBounds_toArray, List.set_cons_zero, List.set_cons_succ])
        refine wpAnyN_take (i := 1) (oi := _) (v := ?_) rfl (by kernel_rfl) (by kernel_rfl) (by kernel_rfl) (by kernel_rfl) (fun _ _ _ h => h) (Or.inl ⟨by rfl, ?_⟩) (by assumption) ?_
        rotate_left
        · (intro W hSw; (try dsimp only at hSw); go_simp; try with_reducible rfl)
        (try simp only [Act.put, List.setIfInBounds_toArray, List.set_cons_zero, List.set_cons_succ])
        refine wpAnyN_take (i := 2) (oi := _) (v := ?_) rfl (by kernel_rfl) (by kernel_rfl) (by kernel_rfl) (by kernel_rfl) (fun _ _ _ h => h) (Or.inl ⟨by rfl, ?_⟩) (by assumption) ?_
        rotate_left
        · (intro W hSw; (try dsimp only at hSw); go_simp; try with_reducible rfl)
        (try simp only [Act.put, List.setIfInBounds_toArray, List.set_cons_zero, List.set_cons_succ])
        refine wpAnyN_take (i := 3) (oi := _) (v := ?_) rfl (by kernel_rfl) (by kernel_rfl) (by kernel_rfl) (by kernel_rfl) (fun _ _ _ h => h) (Or.inl ⟨by rfl, ?_⟩) (by assumption) ?_
        rotate_left
        · (intro W hSw; (try dsimp only at hSw); go_simp; try with_reducible rfl)
        (try simp only [Act.put, List.setIfInBounds_toArray, List.set_cons_zero, List.set_cons_succ])
        refine wpAnyN_take (i := 4) (oi := _) (v := ?_) rfl (by kernel_rfl) (by kernel_rfl) (by kernel_rfl) (by kernel_rfl) (fun _ _ _ h => h) (Or.inl ⟨by rfl, ?_⟩) (by assumption) ?_
        rotate_left
        · (intro W hSw; (try dsimp only at hSw); go_simp; try with_reducible rfl)
        (try simp only [Act.put, List.setIfInBounds_toArray, List.set_cons_zero, List.set_cons_succ])
        refine wpAnyN_take (i := 5) (oi := _) (v := ?_) rfl (by kernel_rfl) (by kernel_rfl) (by kernel_rfl) (by kernel_rfl) (fun _ _ _ h => h) (Or.inl ⟨by rfl, ?_⟩) (by assumption) ?_
        rotate_left
        · (intro W hSw; (try dsimp only at hSw); go_simp; try with_reducible rfl)
        (try simp only [Act.put, List.setIfInBounds_toArray, List.set_cons_zero, List.set_cons_succ])
        refine wpAnyN_take (i := 6) (oi := _) (v := ?_) rfl (by kernel_rfl) (by kernel_rfl) (by kernel_rfl) (by kernel_rfl) (fun _ _ _ h => h) (Or.inl ⟨by rfl, ?_⟩) (by assumption) ?_
        rotate_left
        · (intro W hSw; (try dsimp only at hSw); go_simp; try with_reducible rfl)
        (try simp only [Act.put, List.setIfInBounds_toArray, List.set_cons_zero, List.set_cons_succ])
        refine wpAnyN_take (i := 7) (oi := _) (v := ?_) rfl (by kernel_rfl) (by kernel_rfl) (by kernel_rfl) (by kernel_rfl) (fun _ _ _ h => h) (Or.inl ⟨by rfl, ?_⟩) (by assumption) ?_
        rotate_left
        · (intro W hSw; (try dsimp only at hSw); go_simp; try with_reducible rfl)
        (try simp only [Act.put, List.setIfInBounds_toArray, List.set_cons_zero, List.set_cons_succ])
        refine wpAnyN_take (i := 8) (oi := _) (v := ?_) rfl (by kernel_rfl) (by kernel_rfl) (by kernel_rfl) (by kernel_rfl) (fun _ _ _ h => h) (Or.inl ⟨by rfl, ?_⟩) (by assumption) ?_
        rotate_left
        · (intro W hSw; (try dsimp only at hSw); go_simp; try with_reducible rfl)
        (try simp only [Act.put, List.setIfInBounds_toArray, List.set_cons_zero, List.set_cons_succ])
        refine wpAnyN_take (i := 9) (oi := _) (v := ?_) rfl (by kernel_rfl) (by kernel_rfl) (by kernel_rfl) (by kernel_rfl) (fun _ _ _ h => h) (Or.inl ⟨by kernel_rfl, ?_⟩) (by assumption) ?_
        rotate_left
        · (intro W hSw; (try dsimp only at hSw); go_simp; try with_reducible rfl)
        (try simp only [Act.put, List.getElem_toArray, List.getElem_cons_succ, List.getElem_cons_zero, List.setIfInBounds_toArray, List.set_cons_zero, List.set_cons_succ])
        refine wpAnyN_take (i := 10) (oi := _) (v := ?_) rfl (by kernel_rfl) (by kernel_rfl) (by kernel_rfl) (by kernel_rfl) (fun _ _ _ h => h) (Or.inl ⟨by kernel_rfl, ?_⟩) (by assumption) ?_
        rotate_left
        · (intro W hSw; (try dsimp only at hSw); go_simp; try with_reducible rfl)
        (try simp only [Act.put, List.getElem_toArray, List.getElem_cons_succ, List.getElem_cons_zero, List.setIfInBounds_toArray, List.set_cons_zero, List.set_cons_succ])
        refine wpAnyN_take (i := 11) (oi := _) (v := ?_) rfl (by kernel_rfl) (by kernel_rfl) (by kernel_rfl) (by kernel_rfl) (fun _ _ _ h => h) (Or.inl ⟨by kernel_rfl, ?_⟩) (by assumption) ?_
        rotate_left
        · (intro W hSw; (try dsimp only at hSw); go_simp; try with_reducible rfl)
        (try simp only [Act.put, List.getElem_toArray, List.getElem_cons_succ, List.getElem_cons_zero, List.setIfInBounds_toArray, List.set_cons_zero, List.set_cons_succ])
        refine wpAnyN_take (i := 12) (oi := _) (v := ?_) rfl (by kernel_rfl) (by kernel_rfl) (by kernel_rfl) (by kernel_rfl) (fun _ _ _ h => h) (Or.inl ⟨by kernel_rfl, ?_⟩) (by assumption) ?_
        rotate_left
        · (intro W hSw; (try dsimp only at hSw); go_simp; try with_reducible rfl)
        (try simp only [Act.put, List.getElem_toArray, List.getElem_cons_succ, List.getElem_cons_zero, List.setIfInBounds_toArray, List.set_cons_zero, List.set_cons_succ])
        refine wpAnyN_take (i := 13) (oi := _) (v := ?_) rfl (by kernel_rfl) (by kernel_rfl) (by kernel_rfl) (by kernel_rfl) (fun _ _ _ h => h) (Or.inl ⟨by kernel_rfl, ?_⟩) (by assumption) ?_
        rotate_left
        · (intro W hSw; (try dsimp only at hSw); go_simp; try with_reducible rfl)
        (try simp only [Act.put, List.getElem_toArray, List.getElem_cons_succ, List.getElem_cons_zero, List.setIfInBounds_toArray, List.set_cons_zero, List.set_cons_succ])
        refine wpAnyN_take (i := 14) (oi := _) (v := ?_) rfl (by kernel_rfl) (by kernel_rfl) (by kernel_rfl) (by kernel_rfl) (fun _ _ _ h => h) (Or.inl ⟨by kernel_rfl, ?_⟩) (by assumption) ?_
        rotate_left
        · (intro W hSw; (try dsimp only at hSw); go_simp; try with_reducible rfl)
        (try simp only [Act.put, List.getElem_toArray, List.getElem_cons_succ, List.getElem_cons_zero, List.setIfInBounds_toArray, List.set_cons_zero, List.set_cons_succ])
        refine wpAnyN_take (i := 15) (oi := _) (v := ?_) rfl (by kernel_rfl) (by kernel_rfl) (by kernel_rfl) (by kernel_rfl) (fun _ _ _ h => h) (Or.inl ⟨by kernel_rfl, ?_⟩) (by assumption) ?_
        rotate_left
        · (intro W hSw; (try dsimp only at hSw); go_simp; try with_reducible rfl)
        (try simp only [Act.put, List.getElem_toArray, List.getElem_cons_succ, List.getElem_cons_zero, List.setIfInBounds_toArray, List.set_cons_zero, List.set_cons_succ])
        refine wpAnyN_take (i := 16) (oi := _) (v := ?_) rfl (by kernel_rfl) (by kernel_rfl) (by kernel_rfl) (by kernel_rfl) (fun _ _ _ h => h) (Or.inl ⟨by kernel_rfl, ?_⟩) (by assumption) ?_
        rotate_left
        · (intro W hSw; (try dsimp only at hSw); go_simp; try with_reducible rfl)
        (try simp only [Act.put, List.getElem_toArray, List.getElem_cons_succ, List.getElem_cons_zero, List.setIfInBounds_toArray, List.set_cons_zero, List.set_cons_succ])
        refine wpAnyN_take (i := 17) (oi := _) (v := ?_) rfl (by kernel_rfl) (by kernel_rfl) (by kernel_rfl) (by kernel_rfl) (fun _ _ _ h => h) (Or.inl ⟨by kernel_rfl, ?_⟩) (by assumption) ?_
        rotate_left
        · (intro W hSw; (try dsimp only at hSw); go_simp; try with_reducible rfl)
        (try simp only [Act.put, List.getElem_toArray, List.getElem_cons_succ, List.getElem_cons_zero, List.setIfInBounds_toArray, List.set_cons_zero, List.set_cons_succ])
        refine wpAnyN_take (i := 18) (oi := _) (v := ?_) rfl (by kernel_rfl) (by kernel_rfl) (by kernel_rfl) (by kernel_rfl) (fun _ _ _ h => h) (Or.inl ⟨by kernel_rfl, ?_⟩) (by assumption) ?_
        rotate_left
        · (intro W hSw; (try dsimp only at hSw); go_simp; try with_reducible rfl)
        (try simp only [Act.put, List.getElem_toArray, List.getElem_cons_succ, List.getElem_cons_zero, List.setIfInBounds_toArray, List.set_cons_zero, List.set_cons_succ])
        refine wpAnyN_step (i := 19) (by kernel_rfl) (o := _) rfl (fun KK hKK => ?_)
        go_simp
        (go_at_call 51; (with_reducible refine HLK.out.mono ?_); rintro e W3 ⟨rfl, F3⟩; go_wp2_with fail)
        refine hKK.out _ _ ?_ (fun hHeld => ?_)
        · exact HKE.out _ F3
        clear hKK KK
        (try simp only [Act.put, List.setIfInBounds_toArray, List.set_cons_zero, List.set_cons_succ])
        refine wpAnyN_take (i := 20) (oi := _) (v := ?_) rfl (by kernel_rfl) (by kernel_rfl) (by kernel_rfl) (by kernel_rfl) (fun _ _ _ h => h) (Or.inl ⟨by kernel_rfl, ?_⟩) (by assumption) ?_
        rotate_left
        · (intro W hSw; (try dsimp only at hSw); go_simp; try with_reducible rfl)
        (try simp only [Act.put, List.getElem_toArray, List.getElem_cons_succ, List.getElem_cons_zero, List.setIfInBounds_toArray, List.set_cons_zero, List.set_cons_succ])
        refine wpAnyN_take (i := 21) (oi := _) (v := ?_) rfl (by kernel_rfl) (by kernel_rfl) (by kernel_rfl) (by kernel_rfl) (fun _ _ _ h => h) (Or.inl ⟨by rfl, ?_⟩) (by assumption) ?_
        rotate_left
        · (intro W hSw; (try dsimp only at hSw); go_simp; try with_reducible rfl)
        (try simp only [Act.put, List.setIfInBounds_toArray, List.set_cons_zero, List.set_cons_succ])
        refine wpAnyN_done (by kernel_rfl) ?_ _
        have B3 := HB2.out.fr F3 (fun h => h)
        have z0 := B3.cell 0
        have f0 := B3.frozen 0
        simp only [List.getElem?_toArray, List.getElem?_cons_succ, List.getElem?_cons_zero] at z0
        have HG := Lib.hid (HFW.out.trans F3)
        have HF3 := Lib.hid F3
        have HB3 := Lib.hid B3
        clear x0 x1 x2 x3 x4 x5 y0 y1 y2 y3 y4 y5 p0 p1 B3 F3
        gi_wp2
        have F4 : Fr (fun k => k = z) W3 (W3.setCell ⟨z, 0, none⟩ (.bool false)) := Fr.setCell (S := fun k => k = z) (p := ⟨z, 0, none⟩) (Fr.refl _) (fun _ => rfl) _
        have B4 := HB3.out.set 0 (.bool false)
        simp at B4
        exact ⟨((((Fr.refl W2).drew : Fr (fun _ => False) W2 W2.drew).trans HF3.out).mono (fun _ _ h => h.elim)).trans (F4.mono (fun k _ e => by have := HBA.out; have := HZ.out; have e2 : k = z := e; exact ⟨by omega, by omega, by omega, by omega⟩)), rfl, B4, HG.out.trans' F4 (fun i hi e => by have e2 : i = z := e; have := HZ.out; omega), HFP2.out (by first | rfl | trivial)⟩
      | true =>
        refine wpIn_region_N 22 (S := fun w' => (w'.cell? ⟨y, 0, none⟩ = some (.pointer (some ⟨b, o + i * 7, none⟩)) ∧ w'.cell? ⟨y, 1, none⟩ = some (.pointer (some ⟨b', o' + j * 7, none⟩))) ∧ (w'.cell? ⟨b, o + i * 7 + 1, none⟩ = some u0 ∧ w'.cell? ⟨b, o + i * 7 + 1 + 1, none⟩ = some u1 ∧ w'.cell? ⟨b, o + i * 7 + 1 + 2, none⟩ = some u2 ∧ w'.cell? ⟨b, o + i * 7 + 1 + 3, none⟩ = some u3 ∧ w'.cell? ⟨b, o + i * 7 + 1 + 4, none⟩ = some u4 ∧ w'.cell? ⟨b, o + i * 7 + 1 + 5, none⟩ = some u5) ∧ w'.cell? ⟨b', o' + j * 7 + 1, none⟩ = some v0 ∧ w'.cell? ⟨b', o' + j * 7 + 1 + 1, none⟩ = some v1 ∧ w'.cell? ⟨b', o' + j * 7 + 1 + 2, none⟩ = some v2 ∧ w'.cell? ⟨b', o' + j * 7 + 1 + 3, none⟩ = some v3 ∧ w'.cell? ⟨b', o' + j * 7 + 1 + 4, none⟩ = some v4 ∧ w'.cell? ⟨b', o' + j * 7 + 1 + 5, none⟩ = some v5) (by kernel_rfl) (by kernel_rfl) (by rintro ⟨a, w, h⟩; exact h) ?_ (fun hHeld => ?_)
        · exact ⟨⟨p0, p1⟩, ⟨x0, x1, x2, x3, x4, x5⟩, y0, y1, y2, y3, y4, y5⟩
        refine wpAnyN_take (i := 0) (oi := _) (v := ?_) rfl (by kernel_rfl) (by kernel_rfl) (by kernel_rfl) (by kernel_rfl) (fun _ _ _ h => h) (Or.inl ⟨by rfl, ?_⟩) (by assumption) ?_
        rotate_left
        · (intro W hSw; (try dsimp only at hSw); go_simp; try with_reducible rfl)
        (try simp only [Act.put, List.setIfInBounds_toArray, List.set_cons_zero, List.set_cons_succ])
        refine wpAnyN_take (i := 1) (oi := _) (v := ?_) rfl (by kernel_rfl) (by kernel_rfl) (by kernel_rfl) (by kernel_rfl) (fun _ _ _ h => h) (Or.inl ⟨by rfl, ?_⟩) (by assumption) ?_
        rotate_left
        · (intro W hSw; (try dsimp only at hSw); go_simp; try with_reducible rfl)
        (try simp only [Act.put, List.setIfInBounds_toArray, List.set_cons_zero, List.set_cons_succ])
        refine wpAnyN_take (i := 2) (oi := _) (v := ?_) rfl (by kernel_rfl) (by kernel_rfl) (by kernel_rfl) (by kernel_rfl) (fun _ _ _ h => h) (Or.inl ⟨by rfl, ?_⟩) (by assumption) ?_
        rotate_left
        · (intro W hSw; (try dsimp only at hSw); go_simp; try with_reducible rfl)
        (try simp only [Act.put, List.setIfInBounds_toArray, List.set_cons_zero, List.set_cons_succ])
        refine wpAnyN_take (i := 3) (oi := _) (v := ?_) rfl (by kernel_rfl) (by kernel_rfl) (by kernel_rfl) (by kernel_rfl) (fun _ _ _ h => h) (Or.inl ⟨by rfl, ?_⟩) (by assumption) ?_
        rotate_left
        · (intro W hSw; (try dsimp only at hSw); go_simp; try with_reducible rfl)
        (try simp only [Act.put, List.setIfInBounds_toArray, List.set_cons_zero, List.set_cons_succ])
        refine wpAnyN_take (i := 4) (oi := _) (v := ?_) rfl (by kernel_rfl) (by kernel_rfl) (by kernel_rfl) (by kernel_rfl) (fun _ _ _ h => h) (Or.inl ⟨by rfl, ?_⟩) (by assumption) ?_
        rotate_left
        · (intro W hSw; (try dsimp only at hSw); go_simp; try with_reducible rfl)
        (try simp only [Act.put, List.setIfInBounds_toArray, List.set_cons_zero, List.set_cons_succ])
        refine wpAnyN_take (i := 5) (oi := _) (v := ?_) rfl (by kernel_rfl) (by kernel_rfl) (by kernel_rfl) (by kernel_rfl) (fun _ _ _ h => h) (Or.inl ⟨by rfl, ?_⟩) (by assumption) ?_
        rotate_left
        · (intro W hSw; (try dsimp only at hSw); go_simp; try with_reducible rfl)
        (try simp only [Act.put, List.setIfInBounds_toArray, List.set_cons_zero, List.set_cons_succ])
        refine wpAnyN_take (i := 6) (oi := _) (v := ?_) rfl (by kernel_rfl) (by kernel_rfl) (by kernel_rfl) (by kernel_rfl) (fun _ _ _ h => h) (Or.inl ⟨by rfl, ?_⟩) (by assumption) ?_
        rotate_left
        · (intro W hSw; (try dsimp only at hSw); go_simp; try with_reducible rfl)
        (try simp only [Act.put, List.setIfInBounds_toArray, List.set_cons_zero, List.set_cons_succ])
        refine wpAnyN_take (i := 7) (oi := _) (v := ?_) rfl (by kernel_rfl) (by kernel_rfl) (by kernel_rfl) (by kernel_rfl) (fun _ _ _ h => h) (Or.inl ⟨by rfl, ?_⟩) (by assumption) ?_
        rotate_left
        · (intro W hSw; (try dsimp only at hSw); go_simp; try with_reducible rfl)
        (try simp only [Act.put, List.setIfInBounds_toArray, List.set_cons_zero, List.set_cons_succ])
        refine wpAnyN_take (i := 8) (oi := _) (v := ?_) rfl (by kernel_rfl) (by kernel_rfl) (by kernel_rfl) (by kernel_rfl) (fun _ _ _ h => h) (Or.inl ⟨by rfl, ?_⟩) (by assumption) ?_
        rotate_left
        · (intro W hSw; (try dsimp only at hSw); go_simp; try with_reducible rfl)
        (try simp only [Act.put, List.setIfInBounds_toArray, List.set_cons_zero, List.set_cons_succ])
        refine wpAnyN_take (i := 9) (oi := _) (v := ?_) rfl (by kernel_rfl) (by kernel_rfl) (by kernel_rfl) (by kernel_rfl) (fun _ _ _ h => h) (Or.inl ⟨by kernel_rfl, ?_⟩) (by assumption) ?_
        rotate_left
        · (intro W hSw; (try dsimp only at hSw); go_simp; try with_reducible rfl)
        (try simp only [Act.put, List.getElem_toArray, List.getElem_cons_succ, List.getElem_cons_zero, List.setIfInBounds_toArray, List.set_cons_zero, List.set_cons_succ])
        refine wpAnyN_take (i := 10) (oi := _) (v := ?_) rfl (by kernel_rfl) (by kernel_rfl) (by kernel_rfl) (by kernel_rfl) (fun _ _ _ h => h) (Or.inl ⟨by kernel_rfl, ?_⟩) (by assumption) ?_
        rotate_left
        · (intro W hSw; (try dsimp only at hSw); go_simp; try with_reducible rfl)
        (try simp only [Act.put, List.getElem_toArray, List.getElem_cons_succ, List.getElem_cons_zero, List.setIfInBounds_toArray, List.set_cons_zero, List.set_cons_succ])
        refine wpAnyN_take (i := 11) (oi := _) (v := ?_) rfl (by kernel_rfl) (by kernel_rfl) (by kernel_rfl) (by kernel_rfl) (fun _ _ _ h => h) (Or.inl ⟨by kernel_rfl, ?_⟩) (by assumption) ?_
        rotate_left
        · (intro W hSw; (try dsimp only at hSw); go_simp; try with_reducible rfl)
        (try simp only [Act.put, List.getElem_toArray, List.getElem_cons_succ, List.getElem_cons_zero, List.setIfInBounds_toArray, List.set_cons_zero, List.set_cons_succ])
        refine wpAnyN_take (i := 12) (oi := _) (v := ?_) rfl (by kernel_rfl) (by kernel_rfl) (by kernel_rfl) (by kernel_rfl) (fun _ _ _ h => h) (Or.inl ⟨by kernel_rfl, ?_⟩) (by assumption) ?_
        rotate_left
        · (intro W hSw; (try dsimp only at hSw); go_simp; try with_reducible rfl)
        (try simp only [Act.put, List.getElem_toArray, List.getElem_cons_succ, List.getElem_cons_zero, List.setIfInBounds_toArray, List.set_cons_zero, List.set_cons_succ])
        refine wpAnyN_take (i := 13) (oi := _) (v := ?_) rfl (by kernel_rfl) (by kernel_rfl) (by kernel_rfl) (by kernel_rfl) (fun _ _ _ h => h) (Or.inl ⟨by kernel_rfl, ?_⟩) (by assumption) ?_
        rotate_left
        · (intro W hSw; (try dsimp only at hSw); go_simp; try with_reducible rfl)
        (try simp only [Act.put, List.getElem_toArray, List.getElem_cons_succ, List.getElem_cons_zero, List.setIfInBounds_toArray, List.set_cons_zero, List.set_cons_succ])
        refine wpAnyN_take (i := 14) (oi := _) (v := ?_) rfl (by kernel_rfl) (by kernel_rfl) (by kernel_rfl) (by kernel_rfl) (fun _ _ _ h => h) (Or.inl ⟨by kernel_rfl, ?_⟩) (by assumption) ?_
        rotate_left
        · (intro W hSw; (try dsimp only at hSw); go_simp; try with_reducible rfl)
        (try simp only [Act.put, List.getElem_toArray, List.getElem_cons_succ, List.getElem_cons_zero, List.setIfInBounds_toArray, List.set_cons_zero, List.set_cons_succ])
        refine wpAnyN_take (i := 15) (oi := _) (v := ?_) rfl (by kernel_rfl) (by kernel_rfl) (by kernel_rfl) (by kernel_rfl) (fun _ _ _ h => h) (Or.inl ⟨by kernel_rfl, ?_⟩) (by assumption) ?_
        rotate_left
        · (intro W hSw; (try dsimp only at hSw); go_simp; try with_reducible rfl)
        (try simp only [Act.put, List.getElem_toArray, List.getElem_cons_succ, List.getElem_cons_zero, List.setIfInBounds_toArray, List.set_cons_zero, List.set_cons_succ])
        refine wpAnyN_take (i := 16) (oi := _) (v := ?_) rfl (by kernel_rfl) (by kernel_rfl) (by kernel_rfl) (by kernel_rfl) (fun _ _ _ h => h) (Or.inl ⟨by kernel_rfl, ?_⟩) (by assumption) ?_
        rotate_left
        · (intro W hSw; (try dsimp only at hSw); go_simp; try with_reducible rfl)
        (try simp only [Act.put, List.getElem_toArray, List.getElem_cons_succ, List.getElem_cons_zero, List.setIfInBounds_toArray, List.set_cons_zero, List.set_cons_succ])
        refine wpAnyN_take (i := 17) (oi := _) (v := ?_) rfl (by kernel_rfl) (by kernel_rfl) (by kernel_rfl) (by kernel_rfl) (fun _ _ _ h => h) (Or.inl ⟨by kernel_rfl, ?_⟩) (by assumption) ?_
        rotate_left
        · (intro W hSw; (try dsimp only at hSw); go_simp; try with_reducible rfl)
        (try simp only [Act.put, List.getElem_toArray, List.getElem_cons_succ, List.getElem_cons_zero, List.setIfInBounds_toArray, List.set_cons_zero, List.set_cons_succ])
        refine wpAnyN_take (i := 18) (oi := _) (v := ?_) rfl (by kernel_rfl) (by kernel_rfl) (by kernel_rfl) (by kernel_rfl) (fun _ _ _ h => h) (Or.inl ⟨by kernel_rfl, ?_⟩) (by assumption) ?_
        rotate_left
        · (intro W hSw; (try dsimp only at hSw); go_simp; try with_reducible rfl)
        (try simp only [Act.put, List.getElem_toArray, List.getElem_cons_succ, List.getElem_cons_zero, List.setIfInBounds_toArray, List.set_cons_zero, List.set_cons_succ])
        refine wpAnyN_step (i := 19) (by kernel_rfl) (o := _) rfl (fun KK hKK => ?_)
        go_simp
        (go_at_call 51; (with_reducible refine HLK.out.mono ?_); rintro e W3 ⟨rfl, F3⟩; go_wp2_with fail)
        refine hKK.out _ _ ?_ (fun hHeld => ?_)
        · exact HKE.out _ F3
        clear hKK KK
        (try simp only [Act.put, List.setIfInBounds_toArray, List.set_cons_zero, List.set_cons_succ])
        refine wpAnyN_take (i := 20) (oi := _) (v := ?_) rfl (by kernel_rfl) (by kernel_rfl) (by kernel_rfl) (by kernel_rfl) (fun _ _ _ h => h) (Or.inl ⟨by kernel_rfl, ?_⟩) (by assumption) ?_
        rotate_left
        · (intro W hSw; (try dsimp only at hSw); go_simp; try with_reducible rfl)
        (try simp only [Act.put, List.getElem_toArray, List.getElem_cons_succ, List.getElem_cons_zero, List.setIfInBounds_toArray, List.set_cons_zero, List.set_cons_succ])
        refine wpAnyN_take (i := 21) (oi := _) (v := ?_) rfl (by kernel_rfl) (by kernel_rfl) (by kernel_rfl) (by kernel_rfl) (fun _ _ _ h => h) (Or.inl ⟨by rfl, ?_⟩) (by assumption) ?_
        rotate_left
        · (intro W hSw; (try dsimp only at hSw); go_simp; try with_reducible rfl)
        (try simp only [Act.put, List.setIfInBounds_toArray, List.set_cons_zero, List.set_cons_succ])
        refine wpAnyN_done (by kernel_rfl) ?_ _
        have B3 := HB2.out.fr F3 (fun h => h)
        have HG := Lib.hid (HFW.out.trans F3)
        have HF3 := Lib.hid F3
        have HB3 := Lib.hid B3
        clear x0 x1 x2 x3 x4 x5 y0 y1 y2 y3 y4 y5 p0 p1 B3 F3
        gi_wp2
        exact ⟨(((Fr.refl W2).drew : Fr (fun _ => False) W2 W2.drew).trans HF3.out).mono (fun _ _ h => h.elim), HB3.out, HG.out, by rw [List.length_append]; exact HTK2.out (by first | rfl | trivial)⟩
  case done =>
    rintro D W hD ⟨BR, F, hall⟩ hK
    have hr : sameS L M = true := by
      rw [pairsV_len, List.take_length] at hall
      rw [HEQ.out]; exact hall
    have HRR := Lib.hid hr
    have r0 := BR.cell 0
    have f0 := BR.frozen 0
    simp at r0
    have F4 : Fr (fun k => k = z) W (W.setCell ⟨z, 0, none⟩ (.bool true)) := Fr.setCell (S := fun k => k = z) (p := ⟨z, 0, none⟩) (Fr.refl W) (fun _ => rfl) _
    have B4 := BR.set 0 (.bool true)
    simp at B4
    have hzd : D ≠ z := by have := HBA.out; omega
    have hdw : w.heap.size ≤ D := by have := HF2.out.size; omega
    have hK4 := (F4.block D (Array.getElem?_eq_some_iff.1 hK).1 hzd).trans hK
    have F5 : Fr (fun k => k = D) (W.setCell ⟨z, 0, none⟩ (.bool true)) ((W.setCell ⟨z, 0, none⟩ (.bool true)).putObj D (.deferred none)) := Fr.putObj (S := fun k => k = D) (Fr.refl _) D (fun _ => rfl) _
    have r5 := (B4.fr F5 (fun e => hzd e.symm)).cell 0
    simp at r5
    clear hr HIT hall
    gi_wp2
    refine ⟨by simp, .inl ⟨_, _, rfl, run_takeDeferred hK4, ?_⟩⟩
    exact ⟨.bool true, by simp [results, Tryz.results22, go_sem, r5], by rw [HRR.out], (F.trans' F4 (fun i hi e => by have e2 : i = z := e; have := HZ.out; omega)).trans' F5 (fun i hi e => by have e2 : i = D := e; omega)⟩
  case stop =>
    rintro D c pre W hD hpre ⟨rfl, BR, F, hr⟩ hK
    have HRR := Lib.hid hr
    have r0 := BR.cell 0
    simp at r0
    have hzd : D ≠ z := by have := HBA.out; omega
    have hdw : w.heap.size ≤ D := by have := HF2.out.size; omega
    have F5 : Fr (fun k => k = D) W (W.putObj D (.deferred none)) := Fr.putObj (S := fun k => k = D) (Fr.refl _) D (fun _ => rfl) _
    have r5 := (BR.fr F5 (fun e => hzd e.symm)).cell 0
    simp at r5
    clear hr HIT
    gi_wp2
    refine ⟨by simp, .inl ⟨_, _, rfl, run_takeDeferred hK, ?_⟩⟩
    exact ⟨.bool false, by simp [results, Tryz.results22, go_sem, r5], by rw [HRR.out], F.trans' F5 (fun i hi e => by have e2 : i = D := e; omega)⟩
end Go.Proofs.YtehlipgmkinfbaaGreatDoor
