/-
  Merged by program: XIxNew XIxAdd.
-/
import Derived.Test.YtehlipgmkinfbaaGreatDoorO0m
import Derived.Test.YtehlipgmkinfbaaGreatDoorO0o
namespace Go.Q
open Go Go.RowKit
def fitW (r : RowP) : Prop := fitN r.iss ∧ r.num.size.length ≤ 1000000
theorem apart_iff {α κ : Type} [DecidableEq κ] {key : α → κ} : ∀ {l : List α}, apartB key l = true ↔ ∀ (j : Nat) (x y : α), l[j]? = some x → l[j + 1]? = some y → key x ≠ key y
  | [] => by simp [apartB]
  | [x] => by simp [apartB]
  | x :: y :: t => by
    unfold apartB
    rw [Bool.and_eq_true, decide_eq_true_eq, apart_iff (l := y :: t)]
    constructor
    · rintro ⟨h1, h2⟩ j a b ha hb
      cases j with
      | zero =>
        simp only [List.getElem?_cons_zero, List.getElem?_cons_succ, Nat.zero_add, Option.some.injEq] at ha hb
        rw [← ha, ← hb]; exact h1
      | succ j =>
        rw [List.getElem?_cons_succ] at ha hb
        exact h2 j a b ha hb
    · intro h
      exact ⟨h 0 x y rfl rfl, fun j a b ha hb => h (j + 1) a b (by rw [List.getElem?_cons_succ]; exact ha) (by rw [List.getElem?_cons_succ]; exact hb)⟩
end Go.Q
namespace Go.Proofs.YtehlipgmkinfbaaGreatDoor
open Go Go.RowKit Go.Q
set_option linter.unusedSimpArgs false
theorem info78 : (Tryz.prog.info? 78).map (fun i => (i.zero, i.size, i.bytes)) = some (some (.agg #[.string ⟨#[]⟩, .slice none 0 0, .bool false, .slice none 0 0, .int .i64 0, .int .i64 0, .pointer none]), 7, 96) := by kernel_rfl
def NewOut (l : List RowP) (e : Ending) (w' : World) : Prop :=
  match newIx l with
  | .ok o => ∃ b, e = .returned (.tuple #[pt b, .int .i64 0]) ∧ IxAt w' (pt b) o
  | .error k => e = .returned (.tuple #[.pointer none, .int .i64 k])
set_option maxRecDepth 100000 in
set_option maxHeartbeats 8000000 in
theorem ixNew_any (v : Value) (l : List RowP) (w : World) (h : Go.Q.Rows w v l) (hf : ∀ r ∈ l, fitW r) (hl : l.length ≤ 12) (hE : Env w) :
    Calls Tryz.prog 10 #[v] w fun e w' => NewOut l e w' ∧ Fr (fun _ => False) w w' := by
  have H := Lib.hid h
  have HFT := Lib.hid hf
  have HEN := Lib.hid hE
  obtain ⟨a0, c0, rfl, -⟩ := h
  obtain ⟨z, hz⟩ : ∃ z, z = w.heap.size := ⟨_, rfl⟩
  have HZ := Lib.hid hz
  have BZ := Blk.new w 73 #[.slice none 0 0]
  rw [← hz] at BZ
  have F0 : Fr (fun _ => False) w (w.alloc (.cells #[.slice none 0 0] 73)) := (Fr.refl w).alloc _
  have HF0 := Lib.hid F0
  have HBZ := Lib.hid BZ
  clear hf hE hz BZ F0
  go_enter Tryz.func10, Tryz.ntmps10
  go_upto_region 2 with fail
  rw [← HZ.out]
  generalize (w.alloc (.cells #[.slice none 0 0] 73)) = w0 at *
  go_wp2_with fail
  go_loopg [14] l.length (fun g i wr => ∃ (j : Nat) (a : Option Addr) (c : Nat) (gs : List RowP), g = l.length - j ∧ j ≤ l.length ∧ i = .int .i64 j ∧ gs.length = j ∧ Hid (okRows (l.take j) = true) ∧ Hid (gs = (l.take j).map nrow) ∧ Hid (Blk wr z 73 #[.slice a gs.length c]) ∧ Hid (GRow 7 RSlot (fun k => k = z) 78 wr (z + 1) (.slice a gs.length c) gs) ∧ Hid (Fr (fun _ => False) w wr))
  case atStart => exact ⟨0, none, 0, [], rfl, Nat.zero_le _, rfl, rfl, Lib.hid rfl, Lib.hid rfl, HBZ, Lib.hid (GRow.nil _ _ _ _ _ _), HF0⟩
  case round =>
    obtain ⟨j, a, c, gs, hg, hj, rfl, hgl, HOK, HGS, HB, HRW, HF⟩ := hrel
    have HG := Lib.hid hg
    have HGL := Lib.hid hgl
    clear hg hgl
    by_cases hjl : j < l.length
    · obtain ⟨r, hr⟩ : ∃ r, l[j]? = some r := ⟨_, List.getElem?_eq_getElem hjl⟩
      obtain ⟨b, o, cs, rfl, -, hcs, hR, hcell⟩ := LAt.get (Go.Q.Rows.old H.out HF.out) hr
      obtain ⟨a1, c1, b1, d1, q1, rfl, hni, -⟩ := hR.form
      have e0 := hcell 0 _ rfl
      have e1 := hcell 1 _ rfl
      have e2 := hcell 2 _ rfl
      have e3 := hcell 3 _ rfl
      have e4 := hcell 4 _ rfl
      have e5 := hcell 5 _ rfl
      simp only [Nat.add_zero] at e0
      have p1 : (j : Int) < (l.length : Int) := by omega
      have p2 : (0 : Int) ≤ (j : Int) := by omega
      have HTK := Lib.hid (show (l.take (j + 1)).map nrow = (l.take j).map nrow ++ [nrow r] by rw [List.take_add_one, hr, List.map_append]; rfl)
      have HTO := Lib.hid (show okRows (l.take (j + 1)) = (okRows (l.take j) && nameOk r.iss) by rw [List.take_add_one, hr]; simp [okRows])
      have hft := HFT.out r (List.mem_of_getElem? hr)
      have hfb : ∀ s ∈ r.iss, fewB s := fun s hs => (hft.1.2 s hs).1
      obtain ⟨y, hy⟩ : ∃ y, y = wr.heap.size := ⟨_, rfl⟩
      have HY := Lib.hid hy
      have BY := Blk.new wr 43 #[.slice a1 r.iss.length c1, .bool r.num.below, .slice b1 r.num.size.length d1, .int .i64 r.date, .int .i64 r.reason, .pointer q1]
      have FA : Fr (fun _ => False) wr (wr.alloc (.cells #[.slice a1 r.iss.length c1, .bool r.num.below, .slice b1 r.num.size.length d1, .int .i64 r.date, .int .i64 r.reason, .pointer q1] 43)) := (Fr.refl wr).alloc _
      have HFA := Lib.hid FA
      rw [← hy] at BY
      have HBY := Lib.hid BY
      have HRR := Lib.hid hR
      have HNI := Lib.hid hni
      have hmem := List.mem_of_getElem? hr
      have HMEM := Lib.hid hmem
      have HFTR := Lib.hid hft
      have HFB := Lib.hid hfb
      clear hcell hR hni FA BY hy hft hfb hr hmem
      go_upto_region 5 with fail
      rw [← HY.out]
      generalize (wr.alloc (.cells #[.slice a1 r.iss.length c1, .bool r.num.below, .slice b1 r.num.size.length d1, .int .i64 r.date, .int .i64 r.reason, .pointer q1] 43)) = w2 at *
      clear e0 e1 e2 e3 e4 e5
      have y0 := HBY.out.cell 0
      simp only [List.getElem?_toArray, List.getElem?_cons_succ, List.getElem?_cons_zero] at y0
      cases hno : nameOk r.iss with
      | false =>
        have HN := Lib.hid (nameKey_bad _ r.iss w2 (HNI.out.old HFA.out) HFB.out hno)
        have HNO := Lib.hid (show newIx l = .error 1 from newIx_bad (by
          cases hq : okRows l with
          | false => rfl
          | true =>
            unfold okRows at hq
            rw [List.all_eq_true] at hq
            have := hq r HMEM.out
            rw [hno] at this; exact this.symm))
        clear hno
        go_wp2_with fail
        refine HN.out.mono ?_
        rintro e w3 ⟨rfl, F3⟩
        go_wp2_with fail
        refine bodyPost_ret (v := .tuple #[.pointer none, .int .i64 1]) (by simp [results, Tryz.results10, go_sem]) rfl ⟨by unfold NewOut; rw [HNO.out], (HF.out.trans HFA.out).trans F3⟩
      | true =>
        have HN := Lib.hid (nameKey_any _ r.iss w2 (HNI.out.old HFA.out) HFB.out hno ((HEN.out.old HF.out).old HFA.out))
        have HNO := Lib.hid hno
        clear hno
        go_wp2_with fail
        refine HN.out.mono ?_
        rintro e w3 ⟨rfl, F3⟩
        have HF3 := Lib.hid (HFA.out.trans F3)
        have BZ := (HB.out.fr (HFA.out.trans F3) (fun h => h)).drew
        have BY := (HBY.out.fr F3 (fun h => h)).drew
        have HC := Lib.hid (fun W (F : Fr (fun _ => False) w3 W) => ixCopied_any _ r W (RRow.old _ _ _ _ HRR.out (HF3.out.trans F)) HFTR.out.1 HNO.out HFTR.out.2)
        have HR3 := Lib.hid (HRW.out.old (HFA.out.trans F3))
        have hzy : z < y := by have := HF.out.size; have := HY.out; have := HB.out.lt; omega
        have HZY := Lib.hid hzy
        have G : Fr (fun _ => False) w3 w3.drew := (Fr.refl w3).drew
        have hsz3 : y < w3.heap.size := (HBY.out.fr F3 (fun h => h)).lt
        have HS3 := Lib.hid hsz3
        have hwr3 : wr.heap.size ≤ w3.heap.size := (HFA.out.trans F3).size
        have HWR := Lib.hid hwr3
        clear F3 y0 hzy hsz3 hwr3 HN
        obtain ⟨x, hx⟩ : ∃ x, x = madeS r.num := ⟨_, rfl⟩
        rw [← hx] at HC
        have HXR := Lib.hid (fun (W : World) (vi vs vp : Value) (g : RRow W [vi, .bool x.below, vs, .int .i64 r.date, .int .i64 r.reason, vp] (nrow r)) => show RSlot W [str (nameKeyS r.iss), vi, .bool x.below, vs, .int .i64 r.date, .int .i64 r.reason, vp] (nrow r) from ⟨_, rfl, g⟩)
        clear hx
        go_upto_region 8 with fail
        refine wp_region_N 11 (S := fun w' => w'.cell? ⟨z, 0, none⟩ = some (.slice a gs.length c) ∧ ∀ j, w'.cell? ⟨y, j, none⟩ = (#[.slice a1 r.iss.length c1, .bool r.num.below, .slice b1 r.num.size.length d1, .int .i64 r.date, .int .i64 r.reason, .pointer q1] : Array Value)[j]?) (by kernel_rfl) ?_ (fun hHeld => ?_)
        · exact ⟨BZ.cell 0, BY.cell⟩
        refine wpAnyN_take (i := 0) (oi := _) (v := ?_) rfl (by kernel_rfl) (by kernel_rfl) (by kernel_rfl) (by kernel_rfl) (fun _ _ _ h => h) (Or.inl ⟨by rfl, ?_⟩) (by assumption) ?_
        rotate_left
        · (intro W hSw; (try dsimp only at hSw); go_simp; try with_reducible rfl)
        (try simp only [Act.put, List.setIfInBounds_toArray, List.set_cons_zero, List.set_cons_succ])
        refine wpAnyN_take (i := 1) (oi := _) (v := ?_) rfl (by kernel_rfl) (by kernel_rfl) (by kernel_rfl) (by kernel_rfl) (fun _ _ _ h => h) (Or.inl ⟨by rfl, ?_⟩) (by assumption) ?_
        rotate_left
        · (intro W hSw; (try dsimp only at hSw); go_simp; try with_reducible rfl)
        (try simp only [Act.put, List.setIfInBounds_toArray, List.set_cons_zero, List.set_cons_succ])
        refine wpAnyN_take (i := 2) (oi := _) (v := ?_) rfl (by kernel_rfl) (by kernel_rfl) (by kernel_rfl) (by kernel_rfl) (fun _ _ _ h => h) (Or.inl ⟨by rfl, ?_⟩) (by assumption) ?_
        rotate_left
        · (intro W hSw; (try dsimp only at hSw); go_simp; try with_reducible rfl)
        (try simp only [Act.put, List.setIfInBounds_toArray, List.set_cons_zero, List.set_cons_succ])
        refine wpAnyN_take (i := 3) (oi := _) (v := ?_) rfl (by kernel_rfl) (by kernel_rfl) (by kernel_rfl) (by kernel_rfl) (fun _ _ _ h => h) (Or.inl ⟨by rfl, ?_⟩) (by assumption) ?_
        rotate_left
        · (intro W hSw; (try dsimp only at hSw); go_simp; try with_reducible rfl)
        (try simp only [Act.put, List.setIfInBounds_toArray, List.set_cons_zero, List.set_cons_succ])
        refine wpAnyN_take (i := 4) (oi := _) (v := ?_) rfl (by kernel_rfl) (by kernel_rfl) (by kernel_rfl) (by kernel_rfl) (fun _ _ _ h => h) (Or.inl ⟨by rfl, ?_⟩) (by assumption) ?_
        rotate_left
        · (intro W hSw; (try dsimp only at hSw); go_simp; try with_reducible rfl)
        (try simp only [Act.put, List.setIfInBounds_toArray, List.set_cons_zero, List.set_cons_succ])
        refine wpAnyN_take (i := 5) (oi := _) (v := ?_) rfl (by kernel_rfl) (by kernel_rfl) (by kernel_rfl) (by kernel_rfl) (fun _ _ _ h => h) (Or.inl ⟨by rfl, ?_⟩) (by assumption) ?_
        rotate_left
        · (intro W hSw; (try dsimp only at hSw); go_simp; try with_reducible rfl)
        (try simp only [Act.put, List.setIfInBounds_toArray, List.set_cons_zero, List.set_cons_succ])
        refine wpAnyN_take (i := 6) (oi := _) (v := ?_) rfl (by kernel_rfl) (by kernel_rfl) (by kernel_rfl) (by kernel_rfl) (fun _ _ _ h => h) (Or.inl ⟨by rfl, ?_⟩) (by assumption) ?_
        rotate_left
        · (intro W hSw; (try dsimp only at hSw); go_simp; try with_reducible rfl)
        (try simp only [Act.put, List.setIfInBounds_toArray, List.set_cons_zero, List.set_cons_succ])
        refine wpAnyN_step (i := 7) (by kernel_rfl) (o := _) rfl (fun KK hKK => ?_)
        go_simp
        (go_at_call 37; (with_reducible refine (HC.out _ G).mono ?_); rintro e w' ⟨⟨a2, c2, b2, d2, q2, rfl, hk⟩, F⟩; replace BZ := BZ.fr F (fun h => h); replace BY := BY.fr F (fun h => h); have hsz := G.size; replace G := G.trans F; clear F HC; go_wp2_with fail)
        refine hKK.out _ _ ?_ (fun hHeld => ?_)
        · exact ⟨BZ.cell 0, BY.cell⟩
        clear hKK KK
        (try simp only [Act.put, List.setIfInBounds_toArray, List.set_cons_zero, List.set_cons_succ])
        refine wpAnyN_take (i := 8) (oi := _) (v := ?_) rfl (by kernel_rfl) (by kernel_rfl) (by kernel_rfl) (by kernel_rfl) (fun _ _ _ h => h) (Or.inl ⟨by rfl, ?_⟩) (by assumption) ?_
        rotate_left
        · (intro W hSw; (try dsimp only at hSw); go_simp; try with_reducible rfl)
        (try simp only [Act.put, List.setIfInBounds_toArray, List.set_cons_zero, List.set_cons_succ])
        have BZA := BZ.alloc (.cells [str (nameKeyS r.iss), .slice a2 r.iss.length c2, .bool x.below, .slice b2 x.size.length d2, .int .i64 r.date, .int .i64 r.reason, .pointer q2].toArray 78)
        have BYA := BY.alloc (.cells [str (nameKeyS r.iss), .slice a2 r.iss.length c2, .bool x.below, .slice b2 x.size.length d2, .int .i64 r.date, .int .i64 r.reason, .pointer q2].toArray 78)
        obtain ⟨a7, c7, w7, hrun, hrow7, F7, hown⟩ := (HR3.out.old G).add (s := 71) Tryz.underlying71 info78 rfl (by decide) (by decide) (by have := HZY.out; have := HS3.out; have := G.size; omega) ((Fr.refl w').alloc (.cells [str (nameKeyS r.iss), .slice a2 r.iss.length c2, .bool x.below, .slice b2 x.size.length d2, .int .i64 r.date, .int .i64 r.reason, .pointer q2].toArray 78)) w'.heap.size [str (nameKeyS r.iss), .slice a2 r.iss.length c2, .bool x.below, .slice b2 x.size.length d2, .int .i64 r.date, .int .i64 r.reason, .pointer q2] rfl (Blk.new w' 78 [str (nameKeyS r.iss), .slice a2 r.iss.length c2, .bool x.below, .slice b2 x.size.length d2, .int .i64 r.date, .int .i64 r.reason, .pointer q2].toArray) (by simp [Value.oneCell', str]) (nrow r) ((hk.weaken (fun k hk => by
            have hd : w3.drew.heap.size = w3.heap.size := rfl
            rcases hk with hk | hk
            · have := (HRW.out.keep k hk).2; have := HWR.out; omega
            · have hk2 : k = z := hk
              have := HZY.out; have := HS3.out; omega)).imp (fun W g => HXR.out W _ _ _ g)) (by have := HGL.out; omega)
        have hk7 := HRW.out.keep
        have BZ7 := BZ.fr F7 (fun e => by have := (hk7 _ e).1; omega)
        have BY7 := BY.fr F7 (fun e => by have := (hk7 _ e).2; have := HY.out; omega)
        have F7w := (G.mono (T := fun k => (Value.slice a gs.length c).ownBlock = some k) (fun _ _ h => h.elim)).trans F7
        have z0 := BZ7.cell 0
        have f0 := BZ7.frozen 0
        have z0s : w7.cell? ⟨z, 0, none⟩ = some (.slice a gs.length c) := z0
        have HRUN := Lib.hid hrun
        refine wpAnyN_step (i := 9) (by kernel_rfl) (o := _) rfl (fun KK hKK => ?_)
        go_simp
        skip
        refine hKK.out _ _ ?_ (fun hHeld => ?_)
        · exact ⟨BZA.cell 0, BYA.cell⟩
        clear hKK KK
        (try simp only [Act.put, List.setIfInBounds_toArray, List.set_cons_zero, List.set_cons_succ])
        refine wpAnyN_step (i := 10) (by kernel_rfl) (o := _) rfl (fun KK hKK => ?_)
        refine step_append_run (by rfl) (.tmp 30) (.tmp 35) 71 (by rfl) _ w7 (by exact HRUN.out) ?_
        refine hKK.out _ _ ?_ (fun hHeld => ?_)
        · exact ⟨BZ7.cell 0, BY7.cell⟩
        clear hKK KK
        (try simp only [Act.put, List.setIfInBounds_toArray, List.set_cons_zero, List.set_cons_succ])
        refine wpAnyN_last (i := 11) (by kernel_rfl) (by decide) (o := _) rfl (fun KK hKK => ?_)
        go_simp
        skip
        refine hKK.out _ _ ?_
        clear hKK KK
        (try simp only [Act.put, List.setIfInBounds_toArray, List.set_cons_zero, List.set_cons_succ])
        refine wpAnyN_last (i := 12) (by kernel_rfl) (by decide) (o := _) rfl (fun KK hKK => ?_)
        go_simp
        skip
        refine hKK.out _ _ ?_
        clear hKK KK
        (try simp only [Act.put, List.setIfInBounds_toArray, List.set_cons_zero, List.set_cons_succ])
        refine wpAnyN_last (i := 13) (by kernel_rfl) (by decide) (o := _) rfl (fun KK hKK => ?_)
        go_simp
        skip
        refine hKK.out _ _ ?_
        clear hKK KK
        (try simp only [Act.put, List.setIfInBounds_toArray, List.set_cons_zero, List.set_cons_succ])
        refine wpAnyN_done (by kernel_rfl) ?_ _
        have B8 : Blk (w7.setCell ⟨z, 0, none⟩ (.slice a7 (gs.length + 1) c7)) z 73 #[.slice a7 (gs.length + 1) c7] := BZ7.set 0 _
        have F8 : Fr (fun k => k = z) w7 (w7.setCell ⟨z, 0, none⟩ (.slice a7 (gs.length + 1) c7)) := Fr.setCell (S := fun k => k = z) (p := ⟨z, 0, none⟩) (Fr.refl w7) (fun _ => rfl) _
        have hk8 := hrow7.keep
        have R8 := hrow7.fr F8 (fun _ _ h => h) (fun k hk e => by have := (hk8 k hk).1; have e2 : k = z := e; omega)
        have HR8 := Lib.hid R8
        have HB8 := Lib.hid B8
        have HF8 := Lib.hid (((HF.out.trans HF3.out).trans' F7w (fun i hi e => by have := (hk7 i e).1; have := HZ.out; omega)).trans' F8 (fun i hi e => by have e2 : i = z := e; have := HZ.out; omega))
        have HGS7 := Lib.hid (show gs ++ [nrow r] = (l.take (j + 1)).map nrow by rw [HTK.out, HGS.out])
        have HOK7 := Lib.hid (show okRows (l.take (j + 1)) = true by rw [HTO.out, HOK.out, HNO.out]; rfl)
        clear B8 F8 hk8 R8 F7w hk7 BZ7 BY7 BZA BYA z0 z0s f0 hrun hrow7 F7 hown hk G BZ BY hsz
        go_wp2_with fail
        go_roundg (l.length - (j + 1))
        case measure => rw [HG.out]; omega
        case rel => exact ⟨j + 1, a7, c7, gs ++ [nrow r], rfl, by omega, by go_num, by rw [List.length_append, HGL.out]; rfl, HOK7, HGS7, Lib.hid (by rw [List.length_append]; exact HB8.out), Lib.hid (by rw [List.length_append]; exact HR8.out), HF8⟩
    · have HOA : Hid (okRows l = true) := Lib.hid (by have := HOK.out; rwa [List.take_of_length_le (by omega)] at this)
      have hgs := HGS.out
      rw [List.take_of_length_le (by omega)] at hgs
      have hgl : gs.length = l.length := by rw [hgs, List.length_map]
      have HGE := Lib.hid hgs
      have HFS := Lib.hid (show ∀ r ∈ gs, r.num.size.length ≤ 1000000 from fun r hr => by
        rw [hgs] at hr
        obtain ⟨x, hx, rfl⟩ := List.mem_map.1 hr
        have := trimS_le x.num.size
        have := (HFT.out x hx).2
        show (trimS x.num.size).length ≤ _
        omega)
      have z0 := HB.out.cell 0
      simp only [List.getElem?_toArray, List.getElem?_cons_succ, List.getElem?_cons_zero] at z0
      have HSO := Lib.hid (sortFunc_any _ gs (z + 1) (fun k => k = z) wr HRW.out (by omega) HFS.out)
      have p1 : ¬ (j : Int) < (l.length : Int) := by omega
      have hkp := HRW.out.keep
      have HKP := Lib.hid hkp
      have HGN := Lib.hid hgl
      have hgn : gs.length ≤ 12 := by omega
      clear hgs hgl hkp
      go_wp2_with fail
      refine HSO.out.mono ?_
      rintro e w5 ⟨rfl, ⟨s, hsp, hsu, hsr⟩, F5⟩
      have hsl : s.length = gs.length := hsp.length_eq
      have HSL := Lib.hid hsl
      have B5 := HB.out.fr F5 (fun e => by have := (HKP.out _ e).1; omega)
      have HB5 := Lib.hid B5
      have HF5 := Lib.hid (HF.out.trans' F5 (fun i hi e => by have := (HKP.out _ e).1; have := HZ.out; omega))
      have HS5 := Lib.hid hsr
      have HNS := Lib.hid (newIx_sorted HOA.out (by rw [← HGE.out]; exact hsp) hsu)
      have HFZ := Lib.hid (show ∀ r ∈ s, r.num.size.length ≤ 1000000 from fun r hr => HFS.out r (hsp.mem_iff.1 hr))
      clear hsl B5 F5 hsr hsp hsu z0 HSO
      go_wp2_with fail
      go_loopg [9] gs.length (fun g ii wx => ∃ q : Nat, g = gs.length - q ∧ q ≤ 1000 ∧ ii = .int .i64 ((q : Int) + 1) ∧ Hid (∀ (j : Nat) (x y : RowP), j < q → s[j]? = some x → s[j + 1]? = some y → rowK x ≠ rowK y) ∧ Hid (Fr (fun _ => False) w5 wx))
      case atStart => exact ⟨0, rfl, by omega, rfl, Lib.hid (fun j x y hj => absurd hj (Nat.not_lt_zero _)), Lib.hid (Fr.refl _)⟩
      case round =>
        obtain ⟨q, hg, hq, rfl, HAP, HFX⟩ := hrel
        have HG2 := Lib.hid hg
        clear hg
        have BX := HB5.out.fr HFX.out (fun h => h)
        have z0 := BX.cell 0
        simp only [List.getElem?_toArray, List.getElem?_cons_zero] at z0
        by_cases hql : q + 1 < gs.length
        · obtain ⟨rx, hrx⟩ : ∃ rx, s[q]? = some rx := ⟨_, List.getElem?_eq_getElem (by have := HSL.out; omega)⟩
          obtain ⟨ry, hry⟩ : ∃ ry, s[q + 1]? = some ry := ⟨_, List.getElem?_eq_getElem (by have := HSL.out; omega)⟩
          have hat := ((HS5.out.old HFX.out).at (by decide) : Slots wr _ s)
          obtain ⟨b, o, us, rfl, -, hus, hRx, hcx⟩ := LAt.get hat hrx
          obtain ⟨b', o', vs, hbo, -, hvs, hRy, hcy⟩ := LAt.get hat hry
          simp only [Option.some.injEq, Addr.mk.injEq, and_true] at hbo
          obtain ⟨rfl, rfl⟩ := hbo
          obtain ⟨u0, u1, u2, u3, u4, u5, u6, rfl⟩ := seven_of hus
          obtain ⟨v0, v1, v2, v3, v4, v5, v6, rfl⟩ := seven_of hvs
          have HCE := Lib.hid (fun W (F : Fr (fun _ => False) wr W) => orderSlots_any _ _ rx ry W (RSlot.old _ _ _ _ hRx F) (RSlot.old _ _ _ _ hRy F) (HFZ.out rx (List.mem_of_getElem? hrx)) (HFZ.out ry (List.mem_of_getElem? hry)))
          obtain ⟨k, hk⟩ : ∃ k, k = rowC rx ry := ⟨_, rfl⟩
          rw [← hk] at HCE
          have HK := Lib.hid hk
          have hE : ∀ w', Fr (fun _ => False) wr w' → (w'.cell? ⟨z, 0, none⟩ = some (.slice (some ⟨b, o, none⟩) gs.length c)) ∧ (w'.cell? ⟨b, o + q * 7, none⟩ = some u0 ∧ w'.cell? ⟨b, o + q * 7 + 1, none⟩ = some u1 ∧ w'.cell? ⟨b, o + q * 7 + 2, none⟩ = some u2 ∧ w'.cell? ⟨b, o + q * 7 + 3, none⟩ = some u3 ∧ w'.cell? ⟨b, o + q * 7 + 4, none⟩ = some u4 ∧ w'.cell? ⟨b, o + q * 7 + 5, none⟩ = some u5 ∧ w'.cell? ⟨b, o + q * 7 + 6, none⟩ = some u6) ∧ w'.cell? ⟨b, o + (q + 1) * 7, none⟩ = some v0 ∧ w'.cell? ⟨b, o + (q + 1) * 7 + 1, none⟩ = some v1 ∧ w'.cell? ⟨b, o + (q + 1) * 7 + 2, none⟩ = some v2 ∧ w'.cell? ⟨b, o + (q + 1) * 7 + 3, none⟩ = some v3 ∧ w'.cell? ⟨b, o + (q + 1) * 7 + 4, none⟩ = some v4 ∧ w'.cell? ⟨b, o + (q + 1) * 7 + 5, none⟩ = some v5 ∧ w'.cell? ⟨b, o + (q + 1) * 7 + 6, none⟩ = some v6 := fun w' F =>
            ⟨F.cell z0 (fun h => h), ⟨F.cell (hcx 0 _ rfl) (fun h => h), F.cell (hcx 1 _ rfl) (fun h => h), F.cell (hcx 2 _ rfl) (fun h => h), F.cell (hcx 3 _ rfl) (fun h => h), F.cell (hcx 4 _ rfl) (fun h => h), F.cell (hcx 5 _ rfl) (fun h => h), F.cell (hcx 6 _ rfl) (fun h => h)⟩, F.cell (hcy 0 _ rfl) (fun h => h), F.cell (hcy 1 _ rfl) (fun h => h), F.cell (hcy 2 _ rfl) (fun h => h), F.cell (hcy 3 _ rfl) (fun h => h), F.cell (hcy 4 _ rfl) (fun h => h), F.cell (hcy 5 _ rfl) (fun h => h), F.cell (hcy 6 _ rfl) (fun h => h)⟩
          have HEE := Lib.hid hE
          have HFD := Lib.hid (Fr.refl wr : Fr (fun _ => False) wr wr).drew
          have HSX := Lib.hid hrx
          have HSY := Lib.hid hry
          have c1 : (q : Int) + 1 < (gs.length : Int) := by omega
          have c3 : (0 : Int) ≤ (q : Int) := by omega
          have c4 : (q : Int) < (gs.length : Int) := by omega
          have c5 : (0 : Int) ≤ (q : Int) + 1 := by omega
          have c7 : ((q : Int) + 1).toNat = q + 1 := by omega
          have c8 : q < gs.length := by omega
          have hw1 : IntKind.i64.wrap ((q : Int) + 1 - 1) = (q : Int) := by simp [IntKind.wrap, IntKind.signed, IntKind.bits]; omega
          have hw2 : IntKind.i64.wrap (q : Int) = (q : Int) := by simp [IntKind.wrap, IntKind.signed, IntKind.bits]; omega
          clear hat hcx hcy hRx hRy hk hE hrx hry BX
          by_cases hkk : k = 0
          · have c9 : decide (k = 0) = true := decide_eq_true hkk
            have c10 : (k == 0) = true := by rw [hkk]; rfl
            have HNO := Lib.hid (show newIx l = .error 10 from by
              rw [HNS.out, if_neg]
              intro h
              exact apart_iff.1 h q rx ry HSX.out HSY.out (rowC_zero.1 (by rw [← HK.out]; exact hkk)))
            clear hkk
            go_upto_region 14 with fail
            clear z0
            go_region_held3 (fun w' => (w'.cell? ⟨z, 0, none⟩ = some (.slice (some ⟨b, o, none⟩) gs.length c)) ∧ (w'.cell? ⟨b, o + q * 7, none⟩ = some u0 ∧ w'.cell? ⟨b, o + q * 7 + 1, none⟩ = some u1 ∧ w'.cell? ⟨b, o + q * 7 + 2, none⟩ = some u2 ∧ w'.cell? ⟨b, o + q * 7 + 3, none⟩ = some u3 ∧ w'.cell? ⟨b, o + q * 7 + 4, none⟩ = some u4 ∧ w'.cell? ⟨b, o + q * 7 + 5, none⟩ = some u5 ∧ w'.cell? ⟨b, o + q * 7 + 6, none⟩ = some u6) ∧ w'.cell? ⟨b, o + (q + 1) * 7, none⟩ = some v0 ∧ w'.cell? ⟨b, o + (q + 1) * 7 + 1, none⟩ = some v1 ∧ w'.cell? ⟨b, o + (q + 1) * 7 + 2, none⟩ = some v2 ∧ w'.cell? ⟨b, o + (q + 1) * 7 + 3, none⟩ = some v3 ∧ w'.cell? ⟨b, o + (q + 1) * 7 + 4, none⟩ = some v4 ∧ w'.cell? ⟨b, o + (q + 1) * 7 + 5, none⟩ = some v5 ∧ w'.cell? ⟨b, o + (q + 1) * 7 + 6, none⟩ = some v6) (first | (with_reducible exact HEE.out _ HFD.out) | (with_reducible exact HEE.out _ (HFD.out.trans F2)) | fail) (first
              | (go_at_call 39; (with_reducible refine (HCE.out _ HFD.out).mono ?_); rintro e w2 ⟨rfl, F2⟩)
              | fail)
            all_goals
              have HF9 := Lib.hid (HF5.out.trans (HFX.out.trans (HFD.out.trans F2)))
              clear F2 HCE
              go_wp2_with fail
              refine bodyPost_ret (v := .tuple #[.pointer none, .int .i64 10]) (by simp [results, Tryz.results10, go_sem]) rfl ⟨by unfold NewOut; rw [HNO.out], HF9.out⟩
          · have c9 : decide (k = 0) = false := decide_eq_false hkk
            have c10 : (k == 0) = false := beq_eq_false_iff_ne.2 hkk
            have HAP2 := Lib.hid (show ∀ (j : Nat) (x y : RowP), j < q + 1 → s[j]? = some x → s[j + 1]? = some y → rowK x ≠ rowK y from fun j x y hj hx hy => by
              rcases Nat.lt_or_ge j q with h | h
              · exact HAP.out j x y h hx hy
              · obtain rfl : j = q := by omega
                rw [HSX.out] at hx
                rw [HSY.out] at hy
                obtain rfl := Option.some.inj hx
                obtain rfl := Option.some.inj hy
                exact fun e => hkk (by rw [HK.out]; exact rowC_zero.2 e))
            clear hkk
            go_upto_region 14 with fail
            clear z0
            go_region_held3 (fun w' => (w'.cell? ⟨z, 0, none⟩ = some (.slice (some ⟨b, o, none⟩) gs.length c)) ∧ (w'.cell? ⟨b, o + q * 7, none⟩ = some u0 ∧ w'.cell? ⟨b, o + q * 7 + 1, none⟩ = some u1 ∧ w'.cell? ⟨b, o + q * 7 + 2, none⟩ = some u2 ∧ w'.cell? ⟨b, o + q * 7 + 3, none⟩ = some u3 ∧ w'.cell? ⟨b, o + q * 7 + 4, none⟩ = some u4 ∧ w'.cell? ⟨b, o + q * 7 + 5, none⟩ = some u5 ∧ w'.cell? ⟨b, o + q * 7 + 6, none⟩ = some u6) ∧ w'.cell? ⟨b, o + (q + 1) * 7, none⟩ = some v0 ∧ w'.cell? ⟨b, o + (q + 1) * 7 + 1, none⟩ = some v1 ∧ w'.cell? ⟨b, o + (q + 1) * 7 + 2, none⟩ = some v2 ∧ w'.cell? ⟨b, o + (q + 1) * 7 + 3, none⟩ = some v3 ∧ w'.cell? ⟨b, o + (q + 1) * 7 + 4, none⟩ = some v4 ∧ w'.cell? ⟨b, o + (q + 1) * 7 + 5, none⟩ = some v5 ∧ w'.cell? ⟨b, o + (q + 1) * 7 + 6, none⟩ = some v6) (first | (with_reducible exact HEE.out _ HFD.out) | (with_reducible exact HEE.out _ (HFD.out.trans F2)) | fail) (first
              | (go_at_call 39; (with_reducible refine (HCE.out _ HFD.out).mono ?_); rintro e w2 ⟨rfl, F2⟩)
              | fail)
            all_goals
              have HF9 := Lib.hid (HFX.out.trans (HFD.out.trans F2))
              clear F2 HCE
              go_wp2_with fail
              go_roundg (gs.length - (q + 1))
              case measure => rw [HG2.out]; omega
              case rel => exact ⟨q + 1, rfl, by omega, by go_num, HAP2, HF9⟩
        · have HNO := Lib.hid (show newIx l = .ok s from by
            rw [HNS.out, if_pos]
            exact apart_iff.2 (fun j x y hx hy => HAP.out j x y (by have := (List.getElem?_eq_some_iff.1 hy).1; have := HSL.out; omega) hx hy))
          have HIX := Lib.hid (show IxAt wr (pt z) s from .inr ⟨z, _, rfl, z0, (HS5.out.old HFX.out).at (by decide)⟩)
          have HF9 := Lib.hid (HF5.out.trans HFX.out)
          have c1 : ¬ (q : Int) + 1 < (gs.length : Int) := by omega
          clear BX
          go_wp2_with fail
          refine bodyPost_ret (v := .tuple #[pt z, .int .i64 0]) (by simp [results, Tryz.results10, go_sem]) rfl ⟨by unfold NewOut; rw [HNO.out]; exact ⟨z, rfl, HIX.out⟩, HF9.out⟩
end Go.Proofs.YtehlipgmkinfbaaGreatDoor

namespace Go.Q
open Go Go.RowKit
def IxOwn (W : World) (b base : Nat) (l : List RowP) : Prop := ∃ a c, b < base ∧ Blk W b 73 #[.slice a l.length c] ∧ GRow 7 RSlot (fun k => k < base) 78 W base (.slice a l.length c) l
theorem IxOwn.at {W : World} {b base : Nat} {l : List RowP} (h : IxOwn W b base l) : IxAt W (pt b) l := by
  obtain ⟨a, c, -, h1, h2⟩ := h
  exact .inr ⟨b, _, rfl, h1.cell 0, h2.at (by decide)⟩
theorem IxOwn.fr {S : Nat → Prop} {W W' : World} {b base : Nat} {l : List RowP} (h : IxOwn W b base l) (f : Fr S W W') (hS : ∀ k, S k → k < base ∧ k ≠ b) : IxOwn W' b base l := by
  obtain ⟨a, c, h0, h1, h2⟩ := h
  have hk := h2.keep
  exact ⟨a, c, h0, h1.fr f (fun e => (hS b e).2 rfl), h2.fr f (fun k _ e => (hS k e).1) (fun k e hs => by have := (hk k e).1; have := (hS k hs).1; omega)⟩
def IxOwnT (W : World) (b base top : Nat) (l : List RowP) : Prop := ∃ a c, b < base ∧ Blk W b 73 #[.slice a l.length c] ∧ GRow 7 RSlot (fun k => k < base) 78 W base (.slice a l.length c) l ∧ ∀ k, (Value.slice a l.length c).ownBlock = some k → k < top
theorem IxOwn.top {W : World} {b base : Nat} {l : List RowP} (h : IxOwn W b base l) : IxOwnT W b base W.heap.size l := by
  obtain ⟨a, c, h0, h1, h2⟩ := h
  exact ⟨a, c, h0, h1, h2, fun k hk => (h2.keep k hk).2⟩
theorem IxOwnT.fr {S : Nat → Prop} {W W' : World} {b base top : Nat} {l : List RowP} (h : IxOwnT W b base top l) (f : Fr S W W') (hS : ∀ k, S k → k < base ∧ k ≠ b) : IxOwnT W' b base top l := by
  obtain ⟨a, c, h0, h1, h2, h3⟩ := h
  have hk := h2.keep
  exact ⟨a, c, h0, h1.fr f (fun e => (hS b e).2 rfl), h2.fr f (fun k _ e => (hS k e).1) (fun k e hs => by have := (hk k e).1; have := (hS k hs).1; omega), h3⟩
theorem IxOwn.old {W W' : World} {b base : Nat} {l : List RowP} (h : IxOwn W b base l) (f : Fr (fun _ => False) W W') : IxOwn W' b base l := h.fr f (fun _ e => e.elim)
end Go.Q
namespace Go.Proofs.YtehlipgmkinfbaaGreatDoor
open Go Go.RowKit Go.Q
set_option linter.unusedSimpArgs false
set_option maxRecDepth 100000 in
set_option maxHeartbeats 8000000 in
theorem ixAdd_any (b base top : Nat) (cs : List Value) (r : RowP) (gs : List RowP) (w : World) (h : IxOwnT w b base top gs) (hb : base ≤ w.heap.size) (hr : RSlot w cs r) (hf : fitR r) (hl : gs.length ≤ 1000000) :
    Calls Tryz.prog 50 #[pt b, .agg cs.toArray] w fun e w' => e = .returned (.tuple #[]) ∧ IxOwn w' b base (gs ++ [nrow r]) ∧ Fr (fun k => k = b ∨ (base ≤ k ∧ k < top)) w w' := by
  obtain ⟨a, c, hbb, BZ, hrow, htop⟩ := h
  have HTOP := Lib.hid htop
  clear htop
  obtain ⟨us, rfl, hR⟩ := hr
  have HRR := Lib.hid hR
  obtain ⟨a1, c1, b1, d1, q1, rfl, -⟩ := hR.form
  obtain ⟨y, hy⟩ : ∃ y, y = w.heap.size := ⟨_, rfl⟩
  have HY := Lib.hid hy
  have FA : Fr (fun _ => False) w (w.alloc (.cells #[str (nameKeyS r.iss), .slice a1 r.iss.length c1, .bool r.num.below, .slice b1 r.num.size.length d1, .int .i64 r.date, .int .i64 r.reason, .pointer q1] 78)) := (Fr.refl w).alloc _
  have BY := Blk.new w 78 #[str (nameKeyS r.iss), .slice a1 r.iss.length c1, .bool r.num.below, .slice b1 r.num.size.length d1, .int .i64 r.date, .int .i64 r.reason, .pointer q1]
  rw [← hy] at BY
  have HFA := Lib.hid FA
  have HBZ := Lib.hid BZ
  have HRW := Lib.hid hrow
  have HBB := Lib.hid hbb
  have HB0 := Lib.hid hb
  have HFT := Lib.hid hf
  have HL := Lib.hid hl
  clear hR hy FA BZ hrow hbb hb hf hl
  go_enter Tryz.func50, Tryz.ntmps50
  go_upto_region 1 with fail
  rw [← HY.out]
  have BZ := (HBZ.out.fr HFA.out (fun h => h)).drew
  replace BY := BY.drew
  have hsz0 : y < (w.alloc (.cells #[str (nameKeyS r.iss), .slice a1 r.iss.length c1, .bool r.num.below, .slice b1 r.num.size.length d1, .int .i64 r.date, .int .i64 r.reason, .pointer q1] 78)).heap.size := BY.lt
  generalize (w.alloc (.cells #[str (nameKeyS r.iss), .slice a1 r.iss.length c1, .bool r.num.below, .slice b1 r.num.size.length d1, .int .i64 r.date, .int .i64 r.reason, .pointer q1] 78)) = w3 at *
  have HC := Lib.hid (fun W (F : Fr (fun _ => False) w3 W) => ixCopied_any _ r W (RRow.old _ _ _ _ HRR.out (HFA.out.trans F)) HFT.out.1 HFT.out.2.1 HFT.out.2.2)
  have HR3 := Lib.hid (HRW.out.old HFA.out)
  have HS3 := Lib.hid hsz0
  have G : Fr (fun _ => False) w3 w3.drew := (Fr.refl w3).drew
  obtain ⟨x, hx⟩ : ∃ x, x = madeS r.num := ⟨_, rfl⟩
  rw [← hx] at HC
  have HXR := Lib.hid (fun (W : World) (vi vs vp : Value) (g : RRow W [vi, .bool x.below, vs, .int .i64 r.date, .int .i64 r.reason, vp] (nrow r)) => show RSlot W [str (nameKeyS r.iss), vi, .bool x.below, vs, .int .i64 r.date, .int .i64 r.reason, vp] (nrow r) from ⟨_, rfl, g⟩)
  clear hx hsz0
  refine wp_region_N 13 (S := fun w' => w'.cell? ⟨b, 0, none⟩ = some (.slice a gs.length c) ∧ ∀ j, w'.cell? ⟨y, j, none⟩ = (#[str (nameKeyS r.iss), .slice a1 r.iss.length c1, .bool r.num.below, .slice b1 r.num.size.length d1, .int .i64 r.date, .int .i64 r.reason, .pointer q1] : Array Value)[j]?) (by kernel_rfl) ?_ (fun hHeld => ?_)
  · exact ⟨BZ.cell 0, BY.cell⟩
  refine wpAnyN_take (i := 0) (oi := _) (v := ?_) rfl (by kernel_rfl) (by kernel_rfl) (by kernel_rfl) (by kernel_rfl) (fun _ _ _ h => h) (Or.inl ⟨by rfl, ?_⟩) (by assumption) ?_
  rotate_left
  · (intro W hSw; (try dsimp only at hSw); go_simp; try with_reducible rfl)
  (try simp only [Act.put, List.setIfInBounds_toArray, List.set_cons_zero, List.set_cons_succ])
  refine wpAnyN_take (i := 1) (oi := _) (v := ?_) rfl (by kernel_rfl) (by kernel_rfl) (by kernel_rfl) (by kernel_rfl) (fun _ _ _ h => h) (Or.inl ⟨by rfl, ?_⟩) (by assumption) ?_
  rotate_left
  · (intro W hSw; (try dsimp only at hSw); go_simp; try with_reducible rfl)
  (try simp only [Act.put, List.setIfInBounds_toArray, List.set_cons_zero, List.set_cons_succ])
  refine wpAnyN_take (i := 2) (oi := _) (v := ?_) rfl (by kernel_rfl) (by kernel_rfl) (by kernel_rfl) (by kernel_rfl) (fun _ _ _ h => h) (Or.inl ⟨by rfl, ?_⟩) (by assumption) ?_
  rotate_left
  · (intro W hSw; (try dsimp only at hSw); go_simp; try with_reducible rfl)
  (try simp only [Act.put, List.setIfInBounds_toArray, List.set_cons_zero, List.set_cons_succ])
  refine wpAnyN_take (i := 3) (oi := _) (v := ?_) rfl (by kernel_rfl) (by kernel_rfl) (by kernel_rfl) (by kernel_rfl) (fun _ _ _ h => h) (Or.inl ⟨by rfl, ?_⟩) (by assumption) ?_
  rotate_left
  · (intro W hSw; (try dsimp only at hSw); go_simp; try with_reducible rfl)
  (try simp only [Act.put, List.setIfInBounds_toArray, List.set_cons_zero, List.set_cons_succ])
  refine wpAnyN_take (i := 4) (oi := _) (v := ?_) rfl (by kernel_rfl) (by kernel_rfl) (by kernel_rfl) (by kernel_rfl) (fun _ _ _ h => h) (Or.inl ⟨by rfl, ?_⟩) (by assumption) ?_
  rotate_left
  · (intro W hSw; (try dsimp only at hSw); go_simp; try with_reducible rfl)
  (try simp only [Act.put, List.setIfInBounds_toArray, List.set_cons_zero, List.set_cons_succ])
  refine wpAnyN_take (i := 5) (oi := _) (v := ?_) rfl (by kernel_rfl) (by kernel_rfl) (by kernel_rfl) (by kernel_rfl) (fun _ _ _ h => h) (Or.inl ⟨by rfl, ?_⟩) (by assumption) ?_
  rotate_left
  · (intro W hSw; (try dsimp only at hSw); go_simp; try with_reducible rfl)
  (try simp only [Act.put, List.setIfInBounds_toArray, List.set_cons_zero, List.set_cons_succ])
  refine wpAnyN_take (i := 6) (oi := _) (v := ?_) rfl (by kernel_rfl) (by kernel_rfl) (by kernel_rfl) (by kernel_rfl) (fun _ _ _ h => h) (Or.inl ⟨by rfl, ?_⟩) (by assumption) ?_
  rotate_left
  · (intro W hSw; (try dsimp only at hSw); go_simp; try with_reducible rfl)
  (try simp only [Act.put, List.setIfInBounds_toArray, List.set_cons_zero, List.set_cons_succ])
  refine wpAnyN_take (i := 7) (oi := _) (v := ?_) rfl (by kernel_rfl) (by kernel_rfl) (by kernel_rfl) (by kernel_rfl) (fun _ _ _ h => h) (Or.inl ⟨by rfl, ?_⟩) (by assumption) ?_
  rotate_left
  · (intro W hSw; (try dsimp only at hSw); go_simp; try with_reducible rfl)
  (try simp only [Act.put, List.setIfInBounds_toArray, List.set_cons_zero, List.set_cons_succ])
  refine wpAnyN_take (i := 8) (oi := _) (v := ?_) rfl (by kernel_rfl) (by kernel_rfl) (by kernel_rfl) (by kernel_rfl) (fun _ _ _ h => h) (Or.inl ⟨by rfl, ?_⟩) (by assumption) ?_
  rotate_left
  · (intro W hSw; (try dsimp only at hSw); go_simp; try with_reducible rfl)
  (try simp only [Act.put, List.setIfInBounds_toArray, List.set_cons_zero, List.set_cons_succ])
  refine wpAnyN_step (i := 9) (by kernel_rfl) (o := _) rfl (fun KK hKK => ?_)
  go_simp
  (go_at_call 37; (with_reducible refine (HC.out _ G).mono ?_); rintro e w' ⟨⟨a2, c2, b2, d2, q2, rfl, hk⟩, F⟩; replace BZ := BZ.fr F (fun h => h); replace BY := BY.fr F (fun h => h); have hsz := G.size; replace G := G.trans F; clear F HC; go_wp2_with fail)
  refine hKK.out _ _ ?_ (fun hHeld => ?_)
  · exact ⟨BZ.cell 0, BY.cell⟩
  clear hKK KK
  (try simp only [Act.put, List.setIfInBounds_toArray, List.set_cons_zero, List.set_cons_succ])
  refine wpAnyN_take (i := 10) (oi := _) (v := ?_) rfl (by kernel_rfl) (by kernel_rfl) (by kernel_rfl) (by kernel_rfl) (fun _ _ _ h => h) (Or.inl ⟨by rfl, ?_⟩) (by assumption) ?_
  rotate_left
  · (intro W hSw; (try dsimp only at hSw); go_simp; try with_reducible rfl)
  (try simp only [Act.put, List.setIfInBounds_toArray, List.set_cons_zero, List.set_cons_succ])
  have BZA := BZ.alloc (.cells [str (nameKeyS r.iss), .slice a2 r.iss.length c2, .bool x.below, .slice b2 x.size.length d2, .int .i64 r.date, .int .i64 r.reason, .pointer q2].toArray 78)
  have BYA := BY.alloc (.cells [str (nameKeyS r.iss), .slice a2 r.iss.length c2, .bool x.below, .slice b2 x.size.length d2, .int .i64 r.date, .int .i64 r.reason, .pointer q2].toArray 78)
  obtain ⟨a7, c7, w7, hrun, hrow7, F7, hown⟩ := (HR3.out.old G).add (s := 71) Tryz.underlying71 info78 rfl (by decide) (by decide) (by have := HB0.out; have := HFA.out.size; have := G.size; omega) ((Fr.refl w').alloc (.cells [str (nameKeyS r.iss), .slice a2 r.iss.length c2, .bool x.below, .slice b2 x.size.length d2, .int .i64 r.date, .int .i64 r.reason, .pointer q2].toArray 78)) w'.heap.size [str (nameKeyS r.iss), .slice a2 r.iss.length c2, .bool x.below, .slice b2 x.size.length d2, .int .i64 r.date, .int .i64 r.reason, .pointer q2] rfl (Blk.new w' 78 [str (nameKeyS r.iss), .slice a2 r.iss.length c2, .bool x.below, .slice b2 x.size.length d2, .int .i64 r.date, .int .i64 r.reason, .pointer q2].toArray) (by simp [Value.oneCell', str]) (nrow r) ((hk.weaken (fun k hk => by
      have hd : w3.drew.heap.size = w3.heap.size := rfl
      have := HFA.out.size
      rcases hk with hk | hk
      · have := (HRW.out.keep k hk).2; omega
      · have hk2 : k < base := hk
        have := HB0.out; omega)).imp (fun W g => HXR.out W _ _ _ g)) (by have := HL.out; omega)
  have hk7 := HRW.out.keep
  have hk8 := hrow7.keep
  have BZ7 := BZ.fr F7 (fun e => by have := (hk7 _ e).1; have := HBB.out; omega)
  have BY7 := BY.fr F7 (fun e => by have := (hk7 _ e).2; have := HY.out; omega)
  have F7w := (G.mono (T := fun k => (Value.slice a gs.length c).ownBlock = some k) (fun _ _ h => h.elim)).trans F7
  have z0 := BZ7.cell 0
  have f0 := BZ7.frozen 0
  have z0s : w7.cell? ⟨b, 0, none⟩ = some (.slice a gs.length c) := z0
  have HRUN := Lib.hid hrun
  refine wpAnyN_step (i := 11) (by kernel_rfl) (o := _) rfl (fun KK hKK => ?_)
  go_simp
  skip
  refine hKK.out _ _ ?_ (fun hHeld => ?_)
  · exact ⟨BZA.cell 0, BYA.cell⟩
  clear hKK KK
  (try simp only [Act.put, List.setIfInBounds_toArray, List.set_cons_zero, List.set_cons_succ])
  refine wpAnyN_step (i := 12) (by kernel_rfl) (o := _) rfl (fun KK hKK => ?_)
  refine step_append_run (by rfl) (.tmp 8) (.tmp 15) 71 (by rfl) _ w7 (by exact HRUN.out) ?_
  refine hKK.out _ _ ?_ (fun hHeld => ?_)
  · exact ⟨BZ7.cell 0, BY7.cell⟩
  clear hKK KK
  (try simp only [Act.put, List.setIfInBounds_toArray, List.set_cons_zero, List.set_cons_succ])
  refine wpAnyN_last (i := 13) (by kernel_rfl) (by decide) (o := _) rfl (fun KK hKK => ?_)
  go_simp
  skip
  refine hKK.out _ _ ?_
  clear hKK KK
  (try simp only [Act.put, List.setIfInBounds_toArray, List.set_cons_zero, List.set_cons_succ])
  refine wpAnyN_last (i := 14) (by kernel_rfl) (by decide) (o := _) rfl (fun KK hKK => ?_)
  go_simp
  skip
  refine hKK.out _ _ ?_
  clear hKK KK
  (try simp only [Act.put, List.setIfInBounds_toArray, List.set_cons_zero, List.set_cons_succ])
  refine wpAnyN_last (i := 15) (by kernel_rfl) (by decide) (o := _) rfl (fun KK hKK => ?_)
  go_simp
  skip
  refine hKK.out _ _ ?_
  clear hKK KK
  (try simp only [Act.put, List.setIfInBounds_toArray, List.set_cons_zero, List.set_cons_succ])
  refine wpAnyN_done (by kernel_rfl) ?_ _
  have B8 : Blk (w7.setCell ⟨b, 0, none⟩ (.slice a7 (gs.length + 1) c7)) b 73 #[.slice a7 (gs.length + 1) c7] := BZ7.set 0 _
  have F8 : Fr (fun k => k = b) w7 (w7.setCell ⟨b, 0, none⟩ (.slice a7 (gs.length + 1) c7)) := Fr.setCell (S := fun k => k = b) (p := ⟨b, 0, none⟩) (Fr.refl w7) (fun _ => rfl) _
  have R8 := hrow7.fr F8 (fun k _ e => by have e2 : k = b := e; have := HBB.out; show k < base; omega) (fun k hk e => by have := (hk8 k hk).1; have e2 : k = b := e; have := HBB.out; omega)
  have HOUT := Lib.hid (show IxOwn (w7.setCell ⟨b, 0, none⟩ (.slice a7 (gs.length + 1) c7)) b base (gs ++ [nrow r]) from ⟨a7, c7, HBB.out, by rw [List.length_append]; exact B8, by rw [List.length_append]; exact R8⟩)
  have HF8 := Lib.hid (((HFA.out.mono (T := fun k => k = b ∨ (base ≤ k ∧ k < top)) (fun _ _ h => h.elim)).trans' F7w (fun i hi e => .inr ⟨(hk7 i e).1, HTOP.out i e⟩)).trans' F8 (fun i hi e => .inl e))
  clear B8 F8 hk8 R8 F7w hk7 BZ7 BY7 BZA BYA z0 z0s f0 hrun hrow7 F7 hown hk G BZ BY hsz
  go_end0
  exact ⟨rfl, HOUT.out, HF8.out⟩
end Go.Proofs.YtehlipgmkinfbaaGreatDoor
