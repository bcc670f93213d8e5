/-
  Merged by program: XNSheet2 XNSheet3 XNSheet4 XNWrite XR14B XNbLaw.
-/
import Derived.Test.YtacekpdjapgfcaaGreatDoorD0ak
import Derived.Test.YtacekpdjapgfcaaGreatDoorD0ag
import Derived.Test.YtacekpdjapgfcaaGreatDoorD0aj
import Derived.Test.YtacekpdjapgfcaaGreatDoorD0af
namespace Go.Proofs.YtacekpdjapgfcaaGreatDoor
open Go Go.RowKit Go.Q
set_option linter.unusedSimpArgs false
set_option maxRecDepth 20000 in
theorem sheetFail_no (sb base : Nat) (foot : Nat → Prop) (cur : Frm) (ar : List Frm) (w : World) (h : SheetAt w base foot sb cur ar) :
    Calls Tryz.prog 58 #[pt sb, .int .i64 0] w fun e w' => e = .returned (.tuple #[]) ∧ SheetAt w' base foot sb cur ar ∧ Fr foot w w' := by
  have hlt := h.lt
  obtain ⟨bv, av, bvs, B, h0, h1, h2, h3, h4, h5, h6, h7, h8⟩ := h
  have e6 := B.cell 6
  have f6 := B.frozen 6
  simp at e6
  have B2 : Blk (w.setCell ⟨sb, 6, none⟩ (.int .i64 0)) sb 161 #[.int .i64 cur.tag.cls, .int .i64 cur.tag.num, .bool cur.tag.made, .bool cur.set, bv, av, .int .i64 0] := by
    have := B.set 6 (.int .i64 0)
    simpa using this
  have F2 : Fr (fun k => k = sb) w (w.setCell ⟨sb, 6, none⟩ (.int .i64 0)) := Fr.setCell (S := fun k => k = sb) (p := ⟨sb, 6, none⟩) (Fr.refl w) (fun _ => rfl) _
  have HB := Lib.hid B2
  have HF := Lib.hid F2
  have HH := Lib.hid (show SheetAt (w.setCell ⟨sb, 6, none⟩ (.int .i64 0)) base foot sb cur ar from ⟨bv, av, bvs, B2, h0, ownsRow_fr h1 F2 (fun k hk => (h5 k hk).1), h2, ownsRow_fr h3 F2 (fun k hk => (h6 k hk).1), fun i b g hb hg => ownsRow_fr (h4 i b g hb hg) F2 (fun k hk => (h7 b (List.mem_of_getElem? hb) k hk).1), h5, h6, h7, h8⟩)
  clear B B2 F2 h1 h2 h3 h4 h5 h6 h7 h8
  go_enter Tryz.func58, Tryz.ntmps58
  go_wp2_with fail
  refine (off_no sb w e6).mono ?_
  rintro e w0 ⟨rfl, rfl⟩
  go_wp2_with fail
  go_end0
  exact ⟨rfl, HH.out, HF.out.mono (fun k _ hk => by rw [hk]; exact h0)⟩
theorem set5of7 {w : World} {z : Nat} {t : TypeId} {a0 a1 a2 a3 a4 a5 a6 : Value} (B : Blk w z t #[a0, a1, a2, a3, a4, a5, a6]) (v0 v1 v2 v3 v4 : Value) :
    Blk (((((w.setCell ⟨z, 0, none⟩ v0).setCell ⟨z, 1, none⟩ v1).setCell ⟨z, 2, none⟩ v2).setCell ⟨z, 3, none⟩ v3).setCell ⟨z, 4, none⟩ v4) z t #[v0, v1, v2, v3, v4, a5, a6] ∧ Fr (fun k => k = z) w (((((w.setCell ⟨z, 0, none⟩ v0).setCell ⟨z, 1, none⟩ v1).setCell ⟨z, 2, none⟩ v2).setCell ⟨z, 3, none⟩ v3).setCell ⟨z, 4, none⟩ v4) := by
  have G : ∀ {w' : World}, Fr (fun k => k = z) w w' → ∀ (i : Nat) (v : Value), Fr (fun k => k = z) w (w'.setCell ⟨z, i, none⟩ v) := fun f i v => Fr.setCell (S := fun k => k = z) (p := ⟨z, i, none⟩) f (fun _ => rfl) v
  refine ⟨?_, G (G (G (G (G (Fr.refl w) _ _) _ _) _ _) _ _) _ _⟩
  have := ((((B.set 0 v0).set 1 v1).set 2 v2).set 3 v3).set 4 v4
  simpa using this
theorem setAt5 {w : World} {z : Nat} {t : TypeId} {a0 a1 a2 a3 a4 a5 a6 : Value} (B : Blk w z t #[a0, a1, a2, a3, a4, a5, a6]) (v : Value) : Blk (w.setCell ⟨z, 5, none⟩ v) z t #[a0, a1, a2, a3, a4, v, a6] ∧ Fr (fun k => k = z) w (w.setCell ⟨z, 5, none⟩ v) :=
  ⟨by have := B.set 5 v; simpa using this, Fr.setCell (S := fun k => k = z) (p := ⟨z, 5, none⟩) (Fr.refl w) (fun _ => rfl) _⟩
theorem frm_one (f : Frm) {bv : Value} (h : bv.oneCell' = true) : ∀ u ∈ frmCells f bv, u.oneCell' = true := fun u hu => by
  simp only [frmCells, List.mem_cons, List.not_mem_nil, or_false] at hu
  rcases hu with rfl | rfl | rfl | rfl | rfl <;> first | rfl | exact h
set_option maxRecDepth 20000 in
set_option maxHeartbeats 2000000 in
theorem sheetOpen1_any (sb base : Nat) (foot : Nat → Prop) (cur : Frm) (ar : List Frm) (T : Tag) (st : Bool) (w : World) (h : SheetAt w base foot sb cur ar) (hb : base ≤ w.heap.size) (har : ar.length ≤ 1000) :
    Calls Tryz.prog 104 #[pt sb, .agg #[.int .i64 T.cls, .int .i64 T.num, .bool T.made, .bool st, .slice none 0 0]] w fun e w' => e = .returned (.tuple #[]) ∧ SheetAt w' base (fun k => foot k ∨ w.heap.size ≤ k) sb ⟨T, st, []⟩ (ar ++ [cur]) ∧ Fr foot w w' := by
  have hlt := h.lt
  have F0 : Fr (fun _ => False) w (w.alloc (.cells #[.int .i64 T.cls, .int .i64 T.num, .bool T.made, .bool st, .slice none 0 0] 158)) := (Fr.refl w).alloc _
  obtain ⟨bv, av, bvs, B, h0, h1, h2, h3, h4, h5, h6, h7, h8⟩ := h
  have hav : ∀ k, av.ownBlock = some k → k < w.heap.size := fun k hk => (h3.lt k hk).2
  have hbvl : ∀ k, bv.ownBlock = some k → k < w.heap.size := fun k hk => (h1.lt k hk).2
  have HBL := Lib.hid hbvl
  have HAV := Lib.hid hav
  replace B := B.fr F0 (fun h => h)
  replace h1 := ownsRow_fr h1 F0 (fun _ _ h => h)
  replace h3 := ownsRow_fr h3 F0 (fun _ _ h => h)
  replace h4 : ∀ (i : Nat) (b : Value) (f : Frm), bvs[i]? = some b → ar[i]? = some f → _ := fun i b f hb hf => ownsRow_fr (h4 i b f hb hf) F0 (fun _ _ h => h)
  have BF := Blk.new w 158 #[.int .i64 T.cls, .int .i64 T.num, .bool T.made, .bool st, .slice none 0 0]
  obtain ⟨z, hz⟩ : ∃ z, z = w.heap.size := ⟨_, rfl⟩
  rw [← hz] at BF
  have HZ := Lib.hid hz
  have hzs : z ≠ sb := by omega
  clear hz hav hbvl
  go_enter Tryz.func104, Tryz.ntmps104
  go_upto_region 1 with fail
  rw [← HZ.out]
  generalize (w.alloc (.cells #[.int .i64 T.cls, .int .i64 T.num, .bool T.made, .bool st, .slice none 0 0] 158)) = w0 at *
  have e6 := B.cell 6
  simp at e6
  obtain ⟨abv, nbv, cbv, rfl, hnbv⟩ := own_shape h1
  obtain ⟨aav, nav, cav, rfl, hnav⟩ := own_shape h3
  obtain ⟨cells, hcells⟩ : ∃ cells, cells = frmCells cur (.slice abv nbv cbv) := ⟨_, rfl⟩
  obtain ⟨wa, hwa⟩ : ∃ wa, wa = w0.drew.alloc (.cells cells.toArray 158) := ⟨_, rfl⟩
  have Fa : Fr (fun _ => False) w0 wa := by rw [hwa]; exact (Fr.refl w0).drew.alloc _
  have hbw := F0.size
  obtain ⟨a7, c7, w7, hrun, ho7, F7, hv7⟩ := add_gen Tryz.underlying159 info158 rfl (by decide) (by decide) h3 (Nat.le_trans hb hbw) Fa w0.heap.size cells (by rw [hcells]; rfl) (by rw [hwa]; exact Blk.new w0.drew _ _) (by rw [hcells]; exact frm_one cur rfl) (by omega)
  have B7 := B.fr F7 (fun e => (h6 sb e).1 rfl)
  have HS0 := Lib.hid B.cell
  have HSA := Lib.hid (B.alloc (.cells #[.int .i64 cur.tag.cls, .int .i64 cur.tag.num, .bool cur.tag.made, .bool cur.set, .slice abv nbv cbv] 158)).cell
  have HCa := Lib.hid (B.fr Fa (fun h => h)).cell
  have HC7 := Lib.hid B7.cell
  have HZ7 := Lib.hid B7.frozen
  have HB7 := Lib.hid B7
  have HF7 := Lib.hid F7
  have HO7 := Lib.hid ho7
  have HV7 := Lib.hid hv7
  have HCL := Lib.hid hcells
  have HBF := Lib.hid BF
  have H1 := Lib.hid h1
  have H3 := Lib.hid h3
  have H4 := Lib.hid h4
  have H5 := Lib.hid h5
  have H6 := Lib.hid h6
  have H7 := Lib.hid h7
  have H8 := Lib.hid h8
  have HN := Lib.hid hnbv
  have HNA := Lib.hid hnav
  rw [hwa, hcells] at hrun
  rw [hwa] at HCa
  rw [hcells] at HCa
  have HRUN := Lib.hid hrun
  clear hrun ho7 F7 hv7 B7 B BF Fa hwa hcells h1 h3 h4 h5 h6 h7 h8 hnbv hnav
  go_wp2_with fail
  refine (off_no sb w0 e6).mono ?_
  rintro e w0' ⟨rfl, rfl⟩
  go_upto_region 2 with fail
  have S0 := HS0.out
  have Sa := HSA.out
  have S7 := HC7.out
  have Z7 := HZ7.out
  go_region_law (first
    | (refine step_append_run (by rfl) (.tmp 10) (.tmp 15) 159 (by rfl) _ w7 (by exact HRUN.out) ?_)
    | fail)
  all_goals
    obtain ⟨B8, F8⟩ := setAt5 HB7.out (.slice a7 (ar.length + 1) c7)
    have G8 := (HF7.out.mono (T := fun k => k = sb ∨ (Value.slice aav nav cav).ownBlock = some k) (fun _ _ h => .inr h)).trans (F8.mono (fun _ _ h => .inl h))
    have BF8 := (HBF.out.fr G8 (fun e => by
      rcases e with e | e
      · exact hzs e
      · have := HAV.out z e
        have := HZ.out
        omega))
    generalize (w7.setCell ⟨sb, 5, none⟩ (.slice a7 (ar.length + 1) c7)) = w8 at *
    have SB := B8.cell
    have ZB := B8.frozen
    have SF := BF8.cell
    clear S0 Sa S7 Z7
    go_wp2_with fail
    obtain ⟨B9, F9⟩ := set5of7 B8 (.int .i64 T.cls) (.int .i64 T.num) (.bool T.made) (.bool st) (.slice none 0 0)
    generalize (((((w8.setCell ⟨sb, 0, none⟩ (.int .i64 T.cls)).setCell ⟨sb, 1, none⟩ (.int .i64 T.num)).setCell ⟨sb, 2, none⟩ (.bool T.made)).setCell ⟨sb, 3, none⟩ (.bool st)).setCell ⟨sb, 4, none⟩ (.slice none 0 0)) = w9 at *
    have G9 : Fr (fun k => k = sb ∨ (Value.slice aav nav cav).ownBlock = some k) w0 w9 := G8.trans (F9.mono (fun _ _ h => .inl h))
    have h1 := H1.out
    have h3 := H3.out
    have h4 := H4.out
    have h5 := H5.out
    have h6 := H6.out
    have h7 := H7.out
    have hv := HV7.out
    have hlt7 : ∀ k, (Value.slice a7 (ar.length + 1) c7).ownBlock = some k → k ≠ sb := fun k hk => by
      rcases hv k hk with h | h
      · exact (h6 k h).1
      · omega
    have hbl : ∀ (i : Nat) (b : Value) (f : Frm), bvs[i]? = some b → ar[i]? = some f → w9.ownsRow base 5 1 b f.b.length (Lib.byteCells f.b) := fun i b f hb hf => ownsRow_fr (h4 i b f hb hf) G9 (fun k hk e => by
      have := h7 b (List.mem_of_getElem? hb) k hk
      rcases e with e | e
      · exact this.1 e
      · exact this.2.2.1 e)
    have hbv9 := ownsRow_fr h1 G9 (fun k hk e => by
      rcases e with e | e
      · exact (h5 k hk).1 e
      · exact (h6 k e).2.1 hk)
    have hav9 := ownsRow_fr (ownsRow_fr HO7.out F8 (fun k hk e => hlt7 k hk e)) F9 (fun k hk e => hlt7 k hk e)
    have hbw2 : w.heap.size ≤ w0.heap.size := hbw
    go_end0
    refine ⟨rfl, ⟨.slice none 0 0, .slice a7 (ar.length + 1) c7, bvs ++ [.slice abv nbv cbv], B9, .inl h0, ⟨rfl, .inl ⟨rfl, rfl⟩⟩, by rw [List.length_append, List.length_append, h2]; rfl, ?_, fun i b f hb hf => ?_, (fun k hk => by cases hk), fun k hk => ⟨hlt7 k hk, by simp [Value.ownBlock], ?_⟩, fun b hb k hk => ?_, ?_⟩, (F0.mono (fun _ _ h => h.elim)).trans (G9.trans' (Fr.refl w9) (fun _ _ h => h) |>.mono (fun k _ hk => ?_))⟩
    · rw [List.length_append, List.zipWith_append h2.symm, List.flatten_append]
      have := hav9
      rw [HCL.out] at this
      simpa using this
    · rcases Nat.lt_or_ge i bvs.length with hi | hi
      · rw [List.getElem?_append_left hi] at hb
        rw [List.getElem?_append_left (by omega)] at hf
        exact hbl i b f hb hf
      · have hi2 : i = bvs.length := by
          have := (List.getElem?_eq_some_iff.1 hb).1
          simp at this
          omega
        subst hi2
        rw [List.getElem?_append_right (Nat.le_refl _)] at hb
        rw [List.getElem?_append_right (by omega)] at hf
        simp at hb
        simp [h2] at hf
        subst hb; subst hf
        exact hbv9
    · rcases hv k hk with h | h
      · exact .inl (h6 k h).2.2
      · exact .inr (by omega)
    · rcases List.mem_append.1 hb with hm | hm
      · have := h7 b hm k hk
        refine ⟨this.1, by simp [Value.ownBlock], fun e => ?_, .inl this.2.2.2⟩
        rcases hv k e with h | h
        · exact this.2.2.1 h
        · obtain ⟨i, hi⟩ := List.mem_iff_getElem?.1 hm
          have hil : i < ar.length := by have := (List.getElem?_eq_some_iff.1 hi).1; omega
          have := (h4 i b _ hi (List.getElem?_eq_getElem hil)).lt k hk
          omega
      · rw [List.mem_singleton.1 hm] at hk
        refine ⟨(h5 k hk).1, by simp [Value.ownBlock], fun e => ?_, .inl (h5 k hk).2⟩
        rcases hv k e with h | h
        · exact (h6 k h).2.1 hk
        · have := HBL.out k hk
          omega
    · rw [List.pairwise_append]
      refine ⟨H8.out, List.pairwise_singleton _ _, fun b hb b' hb' k hk => ?_⟩
      rw [List.mem_singleton.1 hb']
      exact (h7 b hb k hk).2.1
    · rcases hk with hk | hk
      · rw [hk]; exact h0
      · exact (h6 k hk).2.2
end Go.Proofs.YtacekpdjapgfcaaGreatDoor

namespace Go.Proofs.YtacekpdjapgfcaaGreatDoor
open Go Go.RowKit Go.Q
set_option linter.unusedSimpArgs false
set_option maxRecDepth 20000 in
theorem sheetOpen_any (sb base : Nat) (foot : Nat → Prop) (cur : Frm) (ar : List Frm) (T : Tag) (w : World) (h : SheetAt w base foot sb cur ar) (hb : base ≤ w.heap.size) (har : ar.length ≤ 1000) :
    Calls Tryz.prog 55 #[pt sb, tagV T] w fun e w' => e = .returned (.tuple #[]) ∧ SheetAt w' base (fun k => foot k ∨ w.heap.size ≤ k) sb ⟨T, false, []⟩ (ar ++ [cur]) ∧ Fr foot w w' := by
  have F0 : Fr (fun _ => False) w (w.alloc (.cells #[.int .i64 T.cls, .int .i64 T.num, .bool T.made] 97)) := (Fr.refl w).alloc _
  have BT := Blk.new w 97 #[.int .i64 T.cls, .int .i64 T.num, .bool T.made]
  have hs := F0.size
  have HO := Lib.hid (sheetOpen1_any sb base foot cur ar T false _ (h.old F0) (Nat.le_trans hb hs) har)
  have HF := Lib.hid F0
  obtain ⟨z, hz⟩ : ∃ z, z = w.heap.size := ⟨_, rfl⟩
  rw [← hz] at BT
  have HZ := Lib.hid hz
  have ST := BT.cell
  clear h F0 BT hz
  rw [show tagV T = .agg #[.int .i64 T.cls, .int .i64 T.num, .bool T.made] from rfl]
  go_enter Tryz.func55, Tryz.ntmps55
  go_upto_region 1 with fail
  rw [← HZ.out]
  generalize (w.alloc (.cells #[.int .i64 T.cls, .int .i64 T.num, .bool T.made] 97)) = w0 at *
  go_wp2_with fail
  refine HO.out.mono ?_
  rintro e w1 ⟨rfl, S1, F1⟩
  have HS := Lib.hid S1
  have HF1 := Lib.hid ((HF.out.mono (fun _ _ h => h.elim)).trans F1)
  clear S1 F1 HO
  go_wp2_with fail
  go_end0
  obtain ⟨bv, av, bvs, B, h0, h1, h2, h3, h4, h5, h6, h7, h8⟩ := HS.out
  have hw : ∀ k, (foot k ∨ w0.heap.size ≤ k) → (foot k ∨ w.heap.size ≤ k) := fun k hk => by
    rcases hk with h | h
    · exact .inl h
    · exact .inr (Nat.le_trans hs h)
  exact ⟨rfl, ⟨bv, av, bvs, B, hw _ h0, h1, h2, h3, h4, fun k hk => ⟨(h5 k hk).1, hw k (h5 k hk).2⟩, fun k hk => ⟨(h6 k hk).1, (h6 k hk).2.1, hw k (h6 k hk).2.2⟩, fun b hb k hk => ⟨(h7 b hb k hk).1, (h7 b hb k hk).2.1, (h7 b hb k hk).2.2.1, hw k (h7 b hb k hk).2.2.2⟩, h8⟩, HF1.out⟩
set_option maxRecDepth 20000 in
set_option maxHeartbeats 2000000 in
theorem frameWhole_any (sb base : Nat) (foot : Nat → Prop) (T : Tag) (l : List UInt8) (ar : List Frm) (w : World) (h : SheetAt w base foot sb ⟨T, false, l⟩ ar) (hT : tagGood T) (hl : l.length ≤ 16777216) :
    Calls Tryz.prog 108 #[pt sb] w fun e w' => (∃ a c, e = .returned (.tuple #[.slice a (wrapS T l).length c, .int .i64 0]) ∧ w'.ownsRow w.heap.size 5 1 (.slice a (wrapS T l).length c) (wrapS T l).length (Lib.byteCells (wrapS T l))) ∧ Fr (fun _ => False) w w' := by
  obtain ⟨bv, av, bvs, B, h0, h1, -⟩ := h
  have hv := (Vals.of_own h1).1
  simp only at hv
  obtain ⟨ab, cb, rfl, -⟩ := Vals.form hv
  have HV := Lib.hid hv
  have HS0 := Lib.hid B.cell
  have HSA := Lib.hid (B.alloc (.cells #[.slice ab l.length cb] 23)).cell
  have e3 := B.cell 3
  simp at e3
  have HW := Lib.hid (fun w' (F : Fr (fun _ => False) w w') (sl : Value) (hp : Parts w' sl [l]) => wrap_any T hT sl [l] w' hp (by simpa using hl) (by simp))
  rw [show ([l] : List (List UInt8)).flatten = l from by simp] at HW
  have hsl := B.lt
  have HB := Lib.hid B
  clear B hv h1 h0 hT
  obtain ⟨c, n, m⟩ := T
  go_enter Tryz.func108, Tryz.ntmps108
  go_upto_region 2 with fail
  have S0 := HS0.out
  have Sa := HSA.out
  simp only at S0 Sa
  obtain ⟨R, hR⟩ : ∃ R, R = wrapS ⟨c, n, m⟩ l := ⟨_, rfl⟩
  rw [← hR] at HW
  have HR := Lib.hid hR
  have HWC := Lib.hid (HW.out (w.alloc (.cells #[.slice ab l.length cb] 23)).drew ((Fr.refl w).alloc _).drew (.slice (some ⟨w.heap.size, 0, none⟩) 1 1) ((Parts.one HV.out).old (Fr.refl _).drew))
  have FA : Fr (fun _ => False) w (w.alloc (.cells #[.slice ab l.length cb] 23)).drew := ((Fr.refl w).alloc _).drew
  have HFA := Lib.hid FA
  clear hR HW HS0 HSA FA
  go_region_held3 (fun w' => ∀ i, w'.cell? ⟨sb, i, none⟩ = (#[.int .i64 c, .int .i64 n, .bool m, .bool false, .slice ab l.length cb, av, .int .i64 0] : Array Value)[i]?) (first | exact S0 | exact Sa | exact (fun i => (HB.out.fr (HFA.out.trans F2) (fun h => h)).cell i)) (first
    | (go_at_call 89; refine HWC.out.mono ?_; rintro e w2 ⟨v2, rfl, hown, F2⟩; obtain ⟨a2, m2, c2, rfl, rfl⟩ := own_shape hown))
  all_goals
    have HO := Lib.hid (own_le hown HFA.out.size)
    have HF2 := Lib.hid (HFA.out.trans F2)
    clear hown F2 HWC HFA S0 Sa
    go_wp2_with fail
    refine bodyPost_ret (v := .tuple #[.slice a2 R.length c2, .int .i64 0]) (by simp [results, Tryz.results108, go_sem]) rfl ⟨?_, HF2.out⟩
    rw [← HR.out]
    exact ⟨a2, c2, rfl, HO.out⟩
set_option maxRecDepth 20000 in
theorem sheetBytes_any (sb base : Nat) (foot : Nat → Prop) (cur : Frm) (w : World) (h : SheetAt w base foot sb cur []) (hl : cur.b.length ≤ 100000000) :
    Calls Tryz.prog 61 #[pt sb] w fun e w' => (∃ a c, e = .returned (.tuple #[.slice a cur.b.length c, .int .i64 0]) ∧ w'.ownsRow w.heap.size 5 1 (.slice a cur.b.length c) cur.b.length (Lib.byteCells cur.b)) ∧ Fr (fun _ => False) w w' := by
  obtain ⟨bv, av, bvs, B, h0, h1, h2, h3, -⟩ := h
  obtain ⟨aav, nav, cav, rfl, hnav⟩ := own_shape h3
  simp only [List.length_nil] at hnav
  subst hnav
  have hv := (Vals.of_own h1).1
  have HC := Lib.hid (cloneByte_any bv cur.b w hv (by omega))
  obtain ⟨ab, cb, rfl, -⟩ := Vals.form hv
  have e4 := B.cell 4
  have e5 := B.cell 5
  have e6 := B.cell 6
  simp at e4 e5 e6
  clear B hv h0 h1 h2 h3
  go_enter Tryz.func61, Tryz.ntmps61
  go_wp2_with fail
  refine HC.out.mono ?_
  rintro e w1 ⟨⟨u, rfl, hown⟩, F1⟩
  obtain ⟨a1, m1, c1, rfl, rfl⟩ := own_shape hown
  have HO := Lib.hid hown
  clear hown HC
  go_wp2_with fail
  exact bodyPost_ret (v := .tuple #[.slice a1 cur.b.length c1, .int .i64 0]) (by simp [results, Tryz.results61, go_sem]) rfl ⟨⟨a1, c1, rfl, HO.out⟩, F1⟩
end Go.Proofs.YtacekpdjapgfcaaGreatDoor

namespace Go.Proofs.YtacekpdjapgfcaaGreatDoor
open Go Go.RowKit Go.Q
set_option linter.unusedSimpArgs false
theorem own_front {w : World} {base n sz : Nat} {t : TypeId} {a : Option Addr} {m c : Nat} {xs : List Value} (h : w.ownsRow base t sz (.slice a m c) n xs) (k : Nat) (hk : k ≤ n) : w.ownsRow base t sz (.slice a k c) k (xs.take (k * sz)) := by
  obtain ⟨h1, h2⟩ := h
  refine ⟨by rw [List.length_take, h1]; exact Nat.min_eq_left (Nat.mul_le_mul_right sz hk), ?_⟩
  rcases h2 with ⟨he, h0⟩ | ⟨g, cap, cur, he, hg, hh, hnc, hcm, hcs, htk⟩
  · simp only [Value.slice.injEq] at he
    obtain ⟨rfl, rfl, rfl⟩ := he
    obtain rfl : k = 0 := by omega
    exact .inl ⟨rfl, rfl⟩
  · simp only [Value.slice.injEq] at he
    obtain ⟨rfl, rfl, rfl⟩ := he
    refine .inr ⟨g, _, cur, rfl, hg, hh, by omega, hcm, hcs, ?_⟩
    rw [← htk, List.take_take, Nat.min_eq_left (Nat.mul_le_mul_right sz hk)]
theorem zip_frm : ∀ (ar : List Frm) (bvs : List Value) (i : Nat) (f : Frm) (b : Value), ar[i]? = some f → bvs[i]? = some b → ∀ j u, (frmCells f b)[j]? = some u → (List.zipWith frmCells ar bvs).flatten[5 * i + j]? = some u
  | [], _, i, f, b, h, _, _, _, _ => by simp at h
  | _ :: _, [], i, f, b, _, h, _, _, _ => by simp at h
  | x :: ar, y :: bvs, 0, f, b, h1, h2, j, u, hu => by
    simp only [List.getElem?_cons_zero, Option.some.injEq] at h1 h2
    subst h1; subst h2
    simp only [List.zipWith_cons_cons, List.flatten_cons, Nat.mul_zero, Nat.zero_add]
    rw [List.getElem?_append_left (List.getElem?_eq_some_iff.1 hu).1]
    exact hu
  | x :: ar, y :: bvs, i + 1, f, b, h1, h2, j, u, hu => by
    simp only [List.getElem?_cons_succ] at h1 h2
    have := zip_frm ar bvs i f b h1 h2 j u hu
    simp only [List.zipWith_cons_cons, List.flatten_cons]
    rw [List.getElem?_append_right (by simp [frmCells]; omega), show 5 * (i + 1) + j - (frmCells x y).length = 5 * i + j from by simp [frmCells]; omega]
    exact this
theorem zip_take : ∀ (ar : List Frm) (bvs : List Value) (k : Nat), ((List.zipWith frmCells ar bvs).flatten).take (k * 5) = (List.zipWith frmCells (ar.take k) (bvs.take k)).flatten
  | [], _, k => by simp
  | _ :: _, [], k => by simp
  | x :: ar, y :: bvs, 0 => by simp
  | x :: ar, y :: bvs, k + 1 => by
    have := zip_take ar bvs k
    simp only [List.zipWith_cons_cons, List.flatten_cons, List.take_succ_cons]
    rw [List.take_append, List.take_of_length_le (by simp [frmCells]; omega), ← this]
    congr 2
    simp [frmCells]; omega
theorem SheetAt.wide {w : World} {base sb : Nat} {foot foot' : Nat → Prop} {cur : Frm} {ar : List Frm} (h : SheetAt w base foot sb cur ar) (hw : ∀ k, foot k → foot' k) : SheetAt w base foot' sb cur ar := by
  obtain ⟨bv, av, bvs, B, h0, h1, h2, h3, h4, h5, h6, h7, h8⟩ := h
  exact ⟨bv, av, bvs, B, hw _ h0, h1, h2, h3, h4, fun k hk => ⟨(h5 k hk).1, hw k (h5 k hk).2⟩, fun k hk => ⟨(h6 k hk).1, (h6 k hk).2.1, hw k (h6 k hk).2.2⟩, fun b hb k hk => ⟨(h7 b hb k hk).1, (h7 b hb k hk).2.1, (h7 b hb k hk).2.2.1, hw k (h7 b hb k hk).2.2.2⟩, h8⟩
theorem own_cell {w : World} {base n sz : Nat} {t : TypeId} {a : Option Addr} {m c : Nat} {xs : List Value} (h : w.ownsRow base t sz (.slice a m c) n xs) (h0 : 0 < n) : ∃ g, a = some ⟨g, 0, none⟩ ∧ ∀ i u, xs[i]? = some u → w.cell? ⟨g, i, none⟩ = some u := by
  obtain ⟨h1, h2⟩ := h
  rcases h2 with ⟨he, hn⟩ | ⟨g, cap, cur, he, hg, hh, hnc, hcm, hcs, htk⟩
  · omega
  · simp only [Value.slice.injEq] at he
    obtain ⟨rfl, rfl, rfl⟩ := he
    refine ⟨g, rfl, fun i u hu => ?_⟩
    have hil := (List.getElem?_eq_some_iff.1 hu).1
    rw [← htk, List.getElem?_take_of_lt (by omega)] at hu
    simp only [World.cell?, hh]
    simpa using hu
set_option maxRecDepth 20000 in
set_option maxHeartbeats 4000000 in
theorem sheetShut_any (sb base : Nat) (foot : Nat → Prop) (T : Tag) (l : List UInt8) (ar : List Frm) (top : Frm) (w : World) (h : SheetAt w base foot sb ⟨T, false, l⟩ (ar ++ [top])) (hT : tagGood T) (hl : l.length ≤ 16777216) (hb : base ≤ w.heap.size) (har : ar.length ≤ 1000) (htl : top.b.length + (wrapS T l).length ≤ 100000000) :
    Calls Tryz.prog 60 #[pt sb] w fun e w' => e = .returned (.tuple #[]) ∧ SheetAt w' base (fun k => foot k ∨ w.heap.size ≤ k) sb (top.more (wrapS T l)) ar ∧ Fr foot w w' := by
  have HW := Lib.hid (frameWhole_any sb base foot T l (ar ++ [top]) w h hT hl)
  have hlt := h.lt
  obtain ⟨bv, av, bvs, B, h0, h1, h2, h3, h4, h5, h6, h7, h8⟩ := h
  rw [List.length_append, List.length_singleton] at h2 h3
  obtain ⟨aav, nav, cav, rfl, rfl⟩ := own_shape h3
  obtain ⟨tb, htb⟩ : ∃ tb, bvs[ar.length]? = some tb := ⟨_, List.getElem?_eq_getElem (by omega)⟩
  have hat : (ar ++ [top])[ar.length]? = some top := by rw [List.getElem?_append_right (Nat.le_refl _)]; simp
  have htown := h4 _ _ _ htb hat
  obtain ⟨atb, ntb, ctb, rfl, hntb⟩ := own_shape htown
  subst hntb
  obtain ⟨R, hR⟩ : ∃ R, R = wrapS T l := ⟨_, rfl⟩
  rw [← hR] at HW htl ⊢
  have HR := Lib.hid hR
  clear hR
  have e5 := B.cell 5
  have e6 := B.cell 6
  simp at e5 e6
  have hw1 : IntKind.i64.wrap (((ar.length + 1 : Nat) : Int) - 1) = (ar.length : Int) := by simp [IntKind.wrap, IntKind.signed, IntKind.bits]; omega
  have q1 : ¬ (ar.length : Int) < 0 := by omega
  go_enter Tryz.func60, Tryz.ntmps60
  go_wp2_with fail
  refine (off_no sb w e6).mono ?_
  rintro e w0 ⟨rfl, rfl⟩
  go_upto_region 4 with fail
  go_wp2_with fail
  refine HW.out.mono ?_
  rintro e w1 ⟨⟨aR, cR, rfl, hown⟩, F1⟩
  have B1 := B.fr F1 (fun h => h)
  have g1 := ownsRow_fr h1 F1 (fun _ _ h => h)
  have g3 := ownsRow_fr h3 F1 (fun _ _ h => h)
  have gt := ownsRow_fr htown F1 (fun _ _ h => h)
  have c5 := B1.cell 5
  simp at c5
  obtain ⟨g, rfl, hgc⟩ := own_cell g3 (by omega)
  obtain ⟨hcv, hcm⟩ : ar.length + 1 ≤ cav ∧ cav ≤ maxLen := by
    rcases g3.2 with ⟨he, -⟩ | ⟨g', cap, cur, he, -, -, hnc, hcm, -⟩
    · simp at he
    · simp only [Value.slice.injEq] at he
      obtain ⟨-, -, rfl⟩ := he
      exact ⟨hnc, hcm⟩
  have hzf : ∀ j u, (frmCells top (.slice atb top.b.length ctb))[j]? = some u → w1.cell? ⟨g, ar.length * 5 + j, none⟩ = some u := fun j u hu => by
    rw [Nat.mul_comm]
    exact hgc _ _ (zip_frm _ _ _ _ _ hat htb j u hu)
  have k0 : w1.cell? ⟨g, ar.length * 5, none⟩ = _ := hzf 0 _ rfl
  have k1 := hzf 1 _ rfl
  have k2 := hzf 2 _ rfl
  have k3 := hzf 3 _ rfl
  have k4 := hzf 4 _ rfl
  have H := Lib.hid (And.intro h1 (And.intro h3 (And.intro h4 (And.intro h5 (And.intro h6 (And.intro h7 (And.intro h8 (And.intro hat (And.intro htb (And.intro htown (And.intro B (And.intro B1 (And.intro g1 (And.intro g3 (And.intro gt (And.intro hown (And.intro F1 (And.intro hgc (And.intro hT h0)))))))))))))))))))
  clear h1 h3 h4 h5 h6 h7 h8 hat htb htown B B1 g1 g3 gt hown F1 hgc hT h0 HW e5 e6 hzf
  have SB := H.out.2.2.2.2.2.2.2.2.2.2.2.1.cell
  have ZB := H.out.2.2.2.2.2.2.2.2.2.2.2.1.frozen
  go_upto_region 8 with fail
  obtain ⟨B2, F2⟩ := set5of7 H.out.2.2.2.2.2.2.2.2.2.2.2.1 (.int .i64 top.tag.cls) (.int .i64 top.tag.num) (.bool top.tag.made) (.bool top.set) (.slice atb top.b.length ctb)
  generalize (((((w1.setCell ⟨sb, 0, none⟩ (.int .i64 top.tag.cls)).setCell ⟨sb, 1, none⟩ (.int .i64 top.tag.num)).setCell ⟨sb, 2, none⟩ (.bool top.tag.made)).setCell ⟨sb, 3, none⟩ (.bool top.set)).setCell ⟨sb, 4, none⟩ (.slice atb top.b.length ctb)) = w2 at *
  have e5 := B2.cell 5
  simp at e5
  have ZB2 := B2.frozen
  have HB2 := Lib.hid B2
  have HF2 := Lib.hid F2
  clear k0 k1 k2 k3 k4 c5 SB ZB B2 F2
  have s0 : (0 : Int) ≤ (ar.length : Int) := by omega
  have s1 : (ar.length : Int) ≤ (cav : Int) := by omega
  go_upto_region 9 with fail
  obtain ⟨B3, F3⟩ := setAt5 HB2.out (.slice (some ⟨g, 0, none⟩) ar.length cav)
  generalize (w2.setCell ⟨sb, 5, none⟩ (.slice (some ⟨g, 0, none⟩) ar.length cav)) = w3 at *
  obtain ⟨h1, h3, h4, h5, h6, h7, h8, hat, htb, htown, B, B1, g1, g3, gt, hown, F1, hgc, hT, h0⟩ := H.out
  have G3 : Fr (fun k => k = sb) w w3 := (F1.mono (fun _ _ h => h.elim)).trans (HF2.out.trans F3)
  have F13 : Fr (fun k => k = sb) w1 w3 := HF2.out.trans F3
  have g33 := own_front (ownsRow_fr g3 F13 (fun k hk => (h6 k hk).1)) ar.length (by omega)
  rw [zip_take, List.take_left' rfl] at g33
  have hmt : ∀ i b, (bvs.take ar.length)[i]? = some b → bvs[i]? = some b ∧ i < ar.length := fun i b hi => by
    have := (List.getElem?_eq_some_iff.1 hi).1
    rw [List.length_take] at this
    have hil : i < ar.length := by omega
    rw [List.getElem?_take_of_lt hil] at hi
    exact ⟨hi, hil⟩
  have S3 : SheetAt w3 base foot sb top ar := by
    refine ⟨.slice atb top.b.length ctb, .slice (some ⟨g, 0, none⟩) ar.length cav, bvs.take ar.length, B3, h0, ownsRow_fr gt F13 (fun k hk => (h7 _ (List.mem_of_getElem? htb) k hk).1), by rw [List.length_take]; omega, g33, fun i b f hb hf => ?_, fun k hk => ?_, fun k hk => ?_, fun b hb k hk => ?_, ?_⟩
    · obtain ⟨hb', hil⟩ := hmt i b hb
      exact ownsRow_fr (h4 i b f hb' (by rw [List.getElem?_append_left hil]; exact hf)) G3 (fun k hk => (h7 b (List.mem_of_getElem? hb') k hk).1)
    · have := h7 _ (List.mem_of_getElem? htb) k hk
      exact ⟨this.1, this.2.2.2⟩
    · have hk' : (Value.slice (some ⟨g, 0, none⟩) (ar.length + 1) cav).ownBlock = some k := hk
      have := h6 k hk'
      exact ⟨this.1, fun e => (h7 _ (List.mem_of_getElem? htb) k e).2.2.1 hk', this.2.2⟩
    · obtain ⟨i, hi⟩ := List.mem_iff_getElem?.1 hb
      obtain ⟨hb', hil⟩ := hmt i b hi
      have := h7 b (List.mem_of_getElem? hb') k hk
      refine ⟨this.1, fun e => ?_, this.2.2.1, this.2.2.2⟩
      have hp := List.pairwise_iff_getElem.1 h8 i ar.length (List.getElem?_eq_some_iff.1 hb').1 (by omega) hil
      rw [(List.getElem?_eq_some_iff.1 hb').2, (List.getElem?_eq_some_iff.1 htb).2] at hp
      exact hp k hk e
    · exact h8.sublist (List.take_sublist _ _)
  have hs3 := G3.size
  have hs1 := F1.size
  have hR3 := (Vals.of_own (ownsRow_fr hown F13 (fun k hk e => by
    have := (hown.lt k hk).1
    omega))).1
  have HA := Lib.hid (sheetAdd_any sb base foot top ar (.slice aR R.length cR) R w3 S3 hR3 (by omega) htl)
  have HG := Lib.hid G3
  have HR0 := Lib.hid h0
  clear h1 h3 h4 h5 h6 h7 h8 hat htb htown B B1 g1 g3 gt hown F1 hgc hT h0 B3 F3 F13 g33 S3 hR3 G3 hmt H HB2 HF2 e5 ZB2
  go_wp2_with fail
  refine HA.out.mono ?_
  rintro e w4 ⟨rfl, S4, F4⟩
  go_wp2_with fail
  go_end0
  refine ⟨rfl, S4.wide (fun k hk => ?_), (HG.out.mono (fun k _ h => h ▸ HR0.out)).trans F4⟩
  rcases hk with h | h
  · exact .inl h
  · exact .inr (by omega)
end Go.Proofs.YtacekpdjapgfcaaGreatDoor

namespace Go.Q
open Go Go.RowKit
def wholesN (n : List (List Part)) : List (List UInt8) := n.map fun r => rdnWhole ((rdnS r).getD [])
def nameWhole (n : List (List Part)) : List UInt8 := wrapS (tagOf 16) (wholesN n).flatten
end Go.Q
namespace Go.Proofs.YtacekpdjapgfcaaGreatDoor
open Go Go.RowKit Go.Q
set_option linter.unusedSimpArgs false
theorem SheetAt.now {w : World} {base sb : Nat} {foot : Nat → Prop} {cur : Frm} {ar : List Frm} (h : SheetAt w base foot sb cur ar) : SheetAt w base (fun k => foot k ∧ k < w.heap.size) sb cur ar := by
  have hlt := h.lt
  obtain ⟨bv, av, bvs, B, h0, h1, h2, h3, h4, h5, h6, h7, h8⟩ := h
  refine ⟨bv, av, bvs, B, ⟨h0, hlt⟩, h1, h2, h3, h4, fun k hk => ⟨(h5 k hk).1, (h5 k hk).2, (h1.lt k hk).2⟩, fun k hk => ⟨(h6 k hk).1, (h6 k hk).2.1, (h6 k hk).2.2, (h3.lt k hk).2⟩, fun b hb k hk => ?_, h8⟩
  have := h7 b hb k hk
  refine ⟨this.1, this.2.1, this.2.2.1, this.2.2.2, ?_⟩
  obtain ⟨i, hi⟩ := List.mem_iff_getElem?.1 hb
  have hil : i < ar.length := by have := (List.getElem?_eq_some_iff.1 hi).1; omega
  exact ((h4 i b _ hi (List.getElem?_eq_getElem hil)).lt k hk).2
theorem parts_kept {w : World} {foot : Nat → Prop} {R : List UInt8} {a : Option Addr} {n c base : Nat} (ho : w.ownsRow base 5 1 (.slice a n c) n (Lib.byteCells R)) (hf : ∀ k, foot k → k < base) (hb : base ≤ w.heap.size) : Kept (fun W => Parts W (.slice (some ⟨w.heap.size, 0, none⟩) 1 1) [R]) foot (w.alloc (.cells #[.slice a n c] 23)) := fun W F => by
  have B := (Blk.new w 23 #[.slice a n c]).fr F (fun h => by have := hf _ h; omega)
  have ho2 := ownsRow_fr (ownsRow_fr ho ((Fr.refl w).alloc _) (fun _ _ h => h)) F (fun k hk h => by have := hf _ h; have := (ho.lt k hk).1; omega)
  refine ⟨[.slice a n c], Vals.of_block B (by show 1 ≤ maxLen; decide), rfl, fun i u l hu hl => ?_⟩
  cases i with
  | zero =>
    simp only [List.getElem?_cons_zero, Option.some.injEq] at hu hl
    subst hu; subst hl
    exact (Vals.of_own ho2).1
  | succ i => simp at hu
set_option maxRecDepth 20000 in
set_option maxHeartbeats 4000000 in
theorem nameWrite_ok (v : Value) (n : List (List Part)) (w : World) (h : NameAt w v n) (hf : ∀ r ∈ n, fewB r) (hok : nameOk n = true) (hs : (wholesN n).flatten.length ≤ 16777216) :
    Calls Tryz.prog 11 #[v] w fun e w' => (∃ a c, e = .returned (.tuple #[.slice a (nameWhole n).length c, .int .i64 0]) ∧ w'.ownsRow w.heap.size 5 1 (.slice a (nameWhole n).length c) (nameWhole n).length (Lib.byteCells (nameWhole n))) ∧ Fr (fun _ => False) w w' := by
  have H := Lib.hid h
  have HRI := right_any v n w h hf
  rw [hok] at HRI
  obtain ⟨hn64, hrd⟩ := name_rdns hok
  have HRD := Lib.hid hrd
  have HS := Lib.hid hs
  obtain ⟨a, cap, rfl, hc, hm, -⟩ := h
  clear hok hrd hs
  go_enter Tryz.func11, Tryz.ntmps11
  go_wp2_with fail
  refine HRI.mono ?_
  rintro e w0 ⟨rfl, F0⟩
  have HF0 := Lib.hid F0
  clear F0 HRI
  go_wp2_with fail
  refine (sheetNew_any w0).mono ?_
  rintro e w1 ⟨rfl, S1, F1⟩
  have HS1 := Lib.hid S1
  have HF1 := Lib.hid F1
  clear S1 F1
  go_wp2_with fail
  refine (headOf_any 16 w1).mono ?_
  rintro e w2 ⟨rfl, F2⟩
  have HS2 := Lib.hid (HS1.out.old F2)
  have HF2 := Lib.hid (HF1.out.trans F2)
  have hz2 := HS2.out.lt
  have HO := Lib.hid (sheetOpen_any w0.heap.size w0.heap.size _ _ _ (tagOf 16) w2 HS2.out (by omega) (by simp))
  clear F2 HS1 HF1 HS2
  go_wp2_with fail
  refine HO.out.mono ?_
  rintro e w3 ⟨rfl, S3, F3⟩
  have HS3 := Lib.hid S3.now
  have HF3 := Lib.hid (HF2.out.trans' F3 (fun k hk e => by omega))
  clear S3 F3 HF2 HO
  go_wp2_with fail
  go_loopg [18] n.length (fun g ii wr => ∃ j : Nat, g = n.length - j ∧ j ≤ n.length ∧ ii = .int .i64 j ∧ SheetAt wr w0.heap.size (fun k => w0.heap.size ≤ k ∧ k < wr.heap.size) w0.heap.size ⟨tagOf 16, false, ((wholesN n).take j).flatten⟩ [⟨⟨0, 0, false⟩, false, []⟩] ∧ Fr (fun _ => False) w0 wr)
  case atStart =>
    exact ⟨0, rfl, Nat.zero_le _, rfl, HS3.out.wide (fun k hk => ⟨by rcases hk.1 with h | h <;> omega, hk.2⟩), HF3.out⟩
  case round =>
    obtain ⟨j, hg, hj, rfl, hS, F⟩ := hrel
    have HG := Lib.hid hg
    have HSj := Lib.hid hS
    have HF := Lib.hid F
    have HFF := Lib.hid (HF0.out.trans F)
    clear hg hS HS3 HF3
    by_cases hjl : j < n.length
    · obtain ⟨a0, cap0, he, _, _, hx⟩ := H.out.old HFF.out
      simp only [Value.slice.injEq, true_and] at he
      obtain ⟨rfl, rfl⟩ := he
      obtain ⟨b, off, rfl, hy⟩ := hx (by omega)
      obtain ⟨r, hr⟩ : ∃ r, n[j]? = some r := ⟨_, List.getElem?_eq_getElem hjl⟩
      obtain ⟨x, e1, hA⟩ := hy j r hr
      have hmem := List.mem_of_getElem? hr
      obtain ⟨ws, hws⟩ := Option.isSome_iff_exists.1 (HRD.out r hmem)
      have hwl : (wholesN n)[j]? = some (rdnWhole ws) := by
        unfold wholesN
        rw [List.getElem?_map, hr]
        simp [hws]
      have hft := flat_take hwl
      have hfl := flat_le (wholesN n) (j + 1)
      rw [hft, List.length_append] at hfl
      have hle := HS.out
      have hwr : ws.flatten.length ≤ (rdnWhole ws).length := by
        unfold rdnWhole
        rw [wrap_len]
        omega
      have HW := writeRdn_any x r wr hA (hf r hmem) (fun ws' h' => by rw [hws] at h'; cases h'; omega)
      rw [hws] at HW
      have HWR := Lib.hid HW
      have HFT := Lib.hid hft
      have r1 : (0 : Int) ≤ (j : Int) := by omega
      have r2 : (j : Int) < (n.length : Int) := by omega
      obtain ⟨R, hR⟩ : ∃ R, R = rdnWhole ws := ⟨_, rfl⟩
      rw [← hR] at hfl
      have HR := Lib.hid hR
      clear hx hy hr hA hmem hws hwl hft hwr F HW hR
      go_wp2_with fail
      refine HWR.out.mono ?_
      rintro e w4 ⟨hres, F4⟩
      unfold writeRdnOut at hres
      simp only at hres
      rw [← HR.out] at hres
      obtain ⟨aR, cR, rfl, hown⟩ := hres
      have HS4 := Lib.hid (HSj.out.old F4)
      have HF4 := Lib.hid F4
      have HOW := Lib.hid hown
      clear HWR F4 hown
      go_wp2_with fail
      refine (sheetFail_no _ _ _ _ _ w4 HS4.out).mono ?_
      rintro e w5 ⟨rfl, S5, F5⟩
      have HS5 := Lib.hid S5
      have HF5 := Lib.hid F5
      clear S5 F5 HS4
      have hown5 := ownsRow_fr HOW.out HF5.out (fun k hk e => by
        have := (HOW.out.lt k hk).1
        omega)
      have hz4 := HF4.out.size
      have hz5 := HF5.out.size
      have hz0 := HF.out.size
      have FA : Fr (fun _ => False) w5 (w5.alloc (.cells #[.slice aR R.length cR] 23)) := (Fr.refl w5).alloc _
      have hzA := FA.size
      have HP := Lib.hid (sheetPut_any w0.heap.size w0.heap.size _ _ _ _ [R] _ (HS5.out.old FA) (parts_kept hown5 (fun k hk => hk.2) (by omega)) (by omega) (by
        show ((wholesN n).take j).flatten.length + [R].flatten.length ≤ 100000000
        simp only [List.flatten_cons, List.flatten_nil, List.append_nil]
        omega) (by simp))
      have G5 := Lib.hid ((HF4.out.mono (T := fun k => w0.heap.size ≤ k) (fun _ _ h => h.elim)).trans ((HF5.out.mono (fun _ _ h => h.1)).trans (FA.mono (fun _ _ h => h.elim))))
      clear hown5 FA HS5 HF4 HF5 HOW
      go_wp2_with fail
      refine HP.out.mono ?_
      rintro e w6 ⟨rfl, S6, F6⟩
      have HS6 := Lib.hid (S6.now.wide (foot' := fun k => w0.heap.size ≤ k ∧ k < w6.heap.size) (fun k hk => ⟨by rcases hk.1 with h | h <;> omega, hk.2⟩))
      have HF6 := Lib.hid (HF.out.trans' (G5.out.trans (F6.mono (fun _ _ h => h.1))) (fun k hk e => by omega))
      clear S6 F6 G5 HP HF HFF
      go_wp2_with fail
      go_roundg (n.length - (j + 1))
      case measure => rw [HG.out]; omega
      case rel =>
        refine ⟨j + 1, rfl, by omega, by go_num, ?_, HF6.out⟩
        have := HS6.out
        rw [HFT.out, ← HR.out]
        simpa [Frm.more] using this
    · obtain rfl : j = n.length := by omega
      have q1 : ¬ (n.length : Int) < (n.length : Int) := by omega
      have hS := HSj.out
      rw [show (wholesN n).take n.length = wholesN n from List.take_of_length_le (by simp [wholesN])] at hS
      have hsl := hS.lt
      have hz0 := HF0.out.size
      have hsn := HS.out
      have hll := len_small (wholesN n).flatten.length hsn
      have hwl : (nameWhole n).length ≤ 20000000 := by
        unfold nameWhole
        rw [wrap_len]
        omega
      have HSH := Lib.hid (sheetShut_any w0.heap.size w0.heap.size _ (tagOf 16) (wholesN n).flatten [] ⟨⟨0, 0, false⟩, false, []⟩ wr hS ⟨by decide, by decide⟩ hsn (by omega) (by simp) (by
        show ([] : List UInt8).length + (nameWhole n).length ≤ 100000000
        simp only [List.length_nil]
        omega))
      clear hS
      go_wp2_with fail
      refine HSH.out.mono ?_
      rintro e w4 ⟨rfl, S4, F4⟩
      obtain ⟨R, hR⟩ : ∃ R, R = nameWhole n := ⟨_, rfl⟩
      have HB := Lib.hid (sheetBytes_any w0.heap.size w0.heap.size _ _ w4 S4 (by
        show ([] ++ nameWhole n).length ≤ 100000000
        simp only [List.nil_append]
        omega))
      rw [show (Frm.more ⟨⟨0, 0, false⟩, false, []⟩ (wrapS (tagOf 16) (wholesN n).flatten)).b = R from by rw [hR]; rfl] at HB
      have HR := Lib.hid hR
      have HF4 := Lib.hid (HFF.out.trans' F4 (fun k hk e => by omega))
      clear S4 F4 HSH hR
      go_wp2_with fail
      refine HB.out.mono ?_
      rintro e w5 ⟨⟨aR, cR, rfl, hown⟩, F5⟩
      have HOW := Lib.hid (own_le hown HF4.out.size)
      have HF5 := Lib.hid (HF4.out.trans F5)
      clear hown F5 HB
      go_wp2_with fail
      refine bodyPost_ret (v := .tuple #[.slice aR R.length cR, .int .i64 0]) (by simp [results, Tryz.results11, go_sem]) rfl ⟨⟨aR, cR, ?_, ?_⟩, HF5.out⟩
      · rw [HR.out]
      · rw [← HR.out]
        exact HOW.out
end Go.Proofs.YtacekpdjapgfcaaGreatDoor

namespace Go.Q
open Go Go.RowKit
open Go.Proofs.YtacekpdjapgfcaaGreatDoor
theorem steps_get : ∀ (l : List Part) (last : Option (List UInt8)) (ws : List (List UInt8)), stepsS last l = some ws → ∀ (j : Nat) (p : Part), l[j]? = some p → ∃ x, ws[j]? = some x ∧ attrS p.o p.b = some x
  | [], _, _, _, j, p, hp => by simp at hp
  | q :: t, last, ws, h, j, p, hp => by
    obtain ⟨x, ws', h1, h2, rfl, -⟩ := steps_in h
    cases j with
    | zero =>
      simp only [List.getElem?_cons_zero, Option.some.injEq] at hp
      subst hp
      exact ⟨x, rfl, h1⟩
    | succ j =>
      simp only [List.getElem?_cons_succ] at hp
      obtain ⟨y, h3, h4⟩ := steps_get t _ _ h2 j p hp
      exact ⟨y, by simpa using h3, h4⟩
theorem rdn_get {l : List Part} {ws : List (List UInt8)} (h : rdnS l = some ws) : ws.length = l.length ∧ l.length ≤ 16 ∧ ∀ (j : Nat) (p : Part), l[j]? = some p → ∃ x, ws[j]? = some x ∧ attrS p.o p.b = some x := by
  unfold rdnS at h
  split at h
  · cases h
  · rename_i hl
    exact ⟨(steps_up l none ws h).2.2, by omega, steps_get l none ws h⟩
theorem attr_room {o : List Int} {b x : List UInt8} (h : attrS o b = some x) : x.length ≤ 306 + b.length := by
  unfold attrS at h
  split at h
  · rename_i h0
    simp only [Bool.and_eq_true] at h0
    simp only [Option.some.injEq] at h
    subst h
    have h1 := oidWhole_len (nums_ok h0.1).2.1
    have h2 : (lenBytes (oidWhole o ++ b).length).length ≤ 5 := by unfold lenBytes; (repeat' split) <;> simp
    rw [wrap_len, List.length_append] at *
    omega
  · cases h
theorem flat_room {m : Nat} : ∀ {ls : List (List UInt8)}, (∀ l ∈ ls, l.length ≤ m) → ls.flatten.length ≤ ls.length * m
  | [], _ => by simp
  | x :: t, h => by
    have h1 := h x (List.mem_cons_self ..)
    have h2 := flat_room (m := m) (ls := t) (fun l hl => h l (List.mem_cons_of_mem _ hl))
    rw [List.flatten_cons, List.length_append, List.length_cons, Nat.add_mul]
    omega
theorem rdn_room {l : List Part} {ws : List (List UInt8)} (h : rdnS l = some ws) (hb : ∀ p ∈ l, p.b.length ≤ 200) : ws.flatten.length ≤ 8096 ∧ (rdnWhole ws).length ≤ 8102 := by
  obtain ⟨h1, h2, h3⟩ := rdn_get h
  have h4 : ∀ x ∈ ws, x.length ≤ 506 := fun x hx => by
    obtain ⟨i, hi⟩ := List.mem_iff_getElem?.1 hx
    have hil : i < l.length := by have := (List.getElem?_eq_some_iff.1 hi).1; omega
    obtain ⟨y, hy, ha⟩ := h3 i _ (List.getElem?_eq_getElem hil)
    rw [hi] at hy
    simp only [Option.some.injEq] at hy
    subst hy
    have := attr_room ha
    have := hb _ (List.getElem_mem hil)
    omega
  have h5 := flat_room h4
  have h6 : ws.length * 506 ≤ 16 * 506 := Nat.mul_le_mul_right _ (by omega)
  have h7 : ws.flatten.length ≤ 8096 := by omega
  refine ⟨h7, ?_⟩
  have h8 := len_small ws.flatten.length (by omega)
  unfold rdnWhole
  rw [wrap_len]
  omega
end Go.Q
namespace Go.Proofs.YtacekpdjapgfcaaGreatDoor
open Go Go.RowKit Go.Q
set_option linter.unusedSimpArgs false
set_option maxRecDepth 20000 in
set_option maxHeartbeats 2000000 in
theorem r14WriteStep_any (v : Value) (l : List Part) (ws : List (List UInt8)) (w : World) (h : Attrs w v l) (hf : fewB l) (hws : rdnS l = some ws) (hs : ws.flatten.length ≤ 16777216) :
    Calls Tryz.prog 142 #[v] w fun e w' => (∃ a c, e = .returned (.slice a (rdnWhole ws).length c) ∧ w'.ownsRow w.heap.size 5 1 (.slice a (rdnWhole ws).length c) (rdnWhole ws).length (Lib.byteCells (rdnWhole ws))) ∧ Fr (fun _ => False) w w' := by
  have H := Lib.hid h
  obtain ⟨hwl, hl16, hget⟩ := rdn_get hws
  have HGET := Lib.hid hget
  have HFL := Lib.hid (fun j => flat_le ws j)
  obtain ⟨a, cap, rfl, hc, hm, -⟩ := h
  clear hws hget
  go_enter Tryz.func142, Tryz.ntmps142
  go_wp2_with fail
  go_loopg [3, 4] l.length (fun g u i wr => ∃ j : Nat, g = l.length - j ∧ j ≤ l.length ∧ i = .int .i64 j ∧ wr.ownsRow w.heap.size 5 1 u (ws.take j).flatten.length (Lib.byteCells (ws.take j).flatten) ∧ Fr (fun _ => False) w wr)
  case atStart => exact ⟨0, rfl, Nat.zero_le _, rfl, ⟨rfl, .inl ⟨rfl, rfl⟩⟩, Fr.refl _⟩
  case round =>
    obtain ⟨j, hg, hj, rfl, hown, F⟩ := hrel
    have HG := Lib.hid hg
    have HF := Lib.hid F
    have HOW := Lib.hid hown
    obtain ⟨au, mu, cu, rfl, rfl⟩ := own_shape hown
    clear hg hown
    by_cases hjl : j < l.length
    · obtain ⟨a0, cap0, he, _, _, hx⟩ := H.out.old F
      simp only [Value.slice.injEq, true_and] at he
      obtain ⟨rfl, rfl⟩ := he
      obtain ⟨b, off, rfl, hy⟩ := hx (by omega)
      obtain ⟨p, hp⟩ : ∃ p, l[j]? = some p := ⟨_, List.getElem?_eq_getElem hjl⟩
      obtain ⟨x, y, e1, e2, hpx, hpy⟩ := hy j p hp
      obtain ⟨k, hk, hak⟩ := HGET.out j p hp
      have hft := flat_take hk
      have hfl := HFL.out (j + 1)
      rw [hft, List.length_append] at hfl
      have hpb := hf p (List.mem_of_getElem? hp)
      obtain ⟨ax, cx, rfl, -⟩ := Ints.form hpx
      obtain ⟨ay, cy, rfl, -⟩ := Vals.form hpy
      have HW0 := r14Whole_any _ _ p.o p.b wr hpx hpy hpb
      unfold rWholeOut at HW0
      rw [hak] at HW0
      simp only at HW0
      have HW := Lib.hid HW0
      have e1' : wr.cell? ⟨b, off + j * 2, none⟩ = some (.slice ax p.o.length cx) := by rw [Nat.mul_comm]; exact e1
      have e2' : wr.cell? ⟨b, off + j * 2 + 1, none⟩ = some (.slice ay p.b.length cy) := by rw [Nat.mul_comm]; exact e2
      have HFT := Lib.hid hft
      have r1 : (0 : Int) ≤ (j : Int) := by omega
      have r2 : (j : Int) < (l.length : Int) := by omega
      clear hx hy hp hpx hpy F e1 e2 hk hak hft HW0
      generalize (ws.take j).flatten = A at *
      go_wp2_with fail
      refine HW.out.mono ?_
      rintro e w2 ⟨⟨vk, rfl, ho2⟩, F2⟩
      obtain ⟨a2, m2, c2, rfl, rfl⟩ := own_shape ho2
      have hz1 := HF.out.size
      have hbk := (Vals.of_own HOW.out).2
      obtain ⟨v', w4, hrun, ho4, F4, _⟩ := append_bytes (ownsRow_fr HOW.out F2 (fun _ _ h => h)) a2 k.length c2 k (Vals.of_own ho2).1 (by omega) (Nat.le_trans hz1 F2.size)
      have HRUN := Lib.hid hrun
      have HO4 := Lib.hid ho4
      have HF4 := Lib.hid ((HF.out.trans F2).trans' F4 (fun i hi e => by have := (hbk i e).1; omega))
      clear e1' e2' HF HW F2 ho2 hrun ho4 F4 hbk HOW
      go_wp2_with (at_builtin; refine wpList_append_run (by rfl) (.tmp 21) (.tmp 22) 23 (by rfl) _ w4 (by exact HRUN.out) ?_)
      go_roundg (l.length - (j + 1))
      case measure => rw [HG.out]; omega
      case rel => exact ⟨j + 1, rfl, by omega, by go_num, by rw [HFT.out, List.length_append]; exact HO4.out, HF4.out⟩
    · obtain rfl : j = l.length := by omega
      have hT : ws.take l.length = ws := List.take_of_length_le (by omega)
      have hown := HOW.out
      rw [hT] at hown ⊢
      have HW := Lib.hid (fun w' (F : Fr (fun _ => False) wr w') => r02Wrap_any (tagOf 17) ⟨by decide, by decide⟩ _ ws.flatten w' ((Vals.of_own hown).1.old F) hs)
      have HR := Lib.hid (show rdnWhole ws = wrapS (tagOf 17) ws.flatten from rfl)
      clear hown HOW hT hs HFL HGET
      generalize ws.flatten = A at *
      go_wp2_with fail
      refine (r02Of_any 17 wr).mono ?_
      rintro e w2 ⟨rfl, F2⟩
      have HW3 := Lib.hid (HW.out w2 F2)
      have HF2 := Lib.hid (F.trans F2)
      clear HW F2 F
      go_wp2_with fail
      refine HW3.out.mono ?_
      rintro e w3 ⟨v3, rfl, ho3, F3⟩
      obtain ⟨a3, m3, c3, rfl, rfl⟩ := own_shape ho3
      have HO3 := Lib.hid (own_le ho3 HF2.out.size)
      have HF3 := Lib.hid (HF2.out.trans F3)
      clear ho3 F3 HW3
      go_wp2_with fail
      go_ret
      rw [HR.out]
      exact ⟨⟨a3, c3, rfl, HO3.out⟩, HF3.out⟩
set_option maxRecDepth 20000 in
set_option maxHeartbeats 2000000 in
theorem r14Write_any (v : Value) (n : List (List Part)) (w : World) (h : NameAt w v n) (hf : ∀ r ∈ n, fewB r) (hok : nameOk n = true) (hs : (wholesN n).flatten.length ≤ 16777216) :
    Calls Tryz.prog 94 #[v] w fun e w' => (∃ a c, e = .returned (.slice a (nameWhole n).length c) ∧ w'.ownsRow w.heap.size 5 1 (.slice a (nameWhole n).length c) (nameWhole n).length (Lib.byteCells (nameWhole n))) ∧ Fr (fun _ => False) w w' := by
  have H := Lib.hid h
  obtain ⟨hn64, hrd⟩ := name_rdns hok
  have HRD := Lib.hid hrd
  have HFL := Lib.hid (fun j => flat_le (wholesN n) j)
  obtain ⟨a, cap, rfl, hc, hm, -⟩ := h
  clear hok hrd
  go_enter Tryz.func94, Tryz.ntmps94
  go_wp2_with fail
  go_loopg [3, 4] n.length (fun g u i wr => ∃ j : Nat, g = n.length - j ∧ j ≤ n.length ∧ i = .int .i64 j ∧ wr.ownsRow w.heap.size 5 1 u ((wholesN n).take j).flatten.length (Lib.byteCells ((wholesN n).take j).flatten) ∧ Fr (fun _ => False) w wr)
  case atStart => exact ⟨0, rfl, Nat.zero_le _, rfl, ⟨rfl, .inl ⟨rfl, rfl⟩⟩, Fr.refl _⟩
  case round =>
    obtain ⟨j, hg, hj, rfl, hown, F⟩ := hrel
    have HG := Lib.hid hg
    have HF := Lib.hid F
    have HOW := Lib.hid hown
    obtain ⟨au, mu, cu, rfl, rfl⟩ := own_shape hown
    clear hg hown
    by_cases hjl : j < n.length
    · obtain ⟨a0, cap0, he, _, _, hx⟩ := H.out.old F
      simp only [Value.slice.injEq, true_and] at he
      obtain ⟨rfl, rfl⟩ := he
      obtain ⟨b, off, rfl, hy⟩ := hx (by omega)
      obtain ⟨r, hr⟩ : ∃ r, n[j]? = some r := ⟨_, List.getElem?_eq_getElem hjl⟩
      obtain ⟨x, e1, hA⟩ := hy j r hr
      have hmem := List.mem_of_getElem? hr
      obtain ⟨ws, hws⟩ := Option.isSome_iff_exists.1 (HRD.out r hmem)
      have hk : (wholesN n)[j]? = some (rdnWhole ws) := by
        unfold wholesN
        rw [List.getElem?_map, hr]
        simp [hws]
      have hft := flat_take hk
      have hfl := HFL.out (j + 1)
      rw [hft, List.length_append] at hfl
      have hwr : ws.flatten.length ≤ (rdnWhole ws).length := by
        unfold rdnWhole
        rw [wrap_len]
        omega
      have HW := Lib.hid (r14WriteStep_any x r ws wr hA (hf r hmem) hws (by omega))
      have HFT := Lib.hid hft
      have r1 : (0 : Int) ≤ (j : Int) := by omega
      have r2 : (j : Int) < (n.length : Int) := by omega
      clear hx hy hr hA F hk hft hws hwr
      generalize rdnWhole ws = k at *
      generalize ((wholesN n).take j).flatten = A at *
      go_wp2_with fail
      refine HW.out.mono ?_
      rintro e w2 ⟨⟨a2, c2, rfl, ho2⟩, F2⟩
      have hz1 := HF.out.size
      have hbk := (Vals.of_own HOW.out).2
      obtain ⟨v', w4, hrun, ho4, F4, _⟩ := append_bytes (ownsRow_fr HOW.out F2 (fun _ _ h => h)) a2 k.length c2 k (Vals.of_own ho2).1 (by omega) (Nat.le_trans hz1 F2.size)
      have HRUN := Lib.hid hrun
      have HO4 := Lib.hid ho4
      have HF4 := Lib.hid ((HF.out.trans F2).trans' F4 (fun i hi e => by have := (hbk i e).1; omega))
      clear e1 HF HW F2 ho2 hrun ho4 F4 hbk HOW
      go_wp2_with (at_builtin; refine wpList_append_run (by rfl) (.tmp 11) (.tmp 16) 23 (by rfl) _ w4 (by exact HRUN.out) ?_)
      go_roundg (n.length - (j + 1))
      case measure => rw [HG.out]; omega
      case rel => exact ⟨j + 1, rfl, by omega, by go_num, by rw [HFT.out, List.length_append]; exact HO4.out, HF4.out⟩
    · obtain rfl : j = n.length := by omega
      have hT : (wholesN n).take n.length = wholesN n := List.take_of_length_le (by simp [wholesN])
      have hown := HOW.out
      rw [hT] at hown ⊢
      have HW := Lib.hid (fun w' (F : Fr (fun _ => False) wr w') => r02Wrap_any (tagOf 16) ⟨by decide, by decide⟩ _ (wholesN n).flatten w' ((Vals.of_own hown).1.old F) hs)
      have HR := Lib.hid (show nameWhole n = wrapS (tagOf 16) (wholesN n).flatten from rfl)
      clear hown HOW hT hs HFL
      generalize (wholesN n).flatten = A at *
      go_wp2_with fail
      refine (r02Of_any 16 wr).mono ?_
      rintro e w2 ⟨rfl, F2⟩
      have HW3 := Lib.hid (HW.out w2 F2)
      have HF2 := Lib.hid (F.trans F2)
      clear HW F2 F
      go_wp2_with fail
      refine HW3.out.mono ?_
      rintro e w3 ⟨v3, rfl, ho3, F3⟩
      obtain ⟨a3, m3, c3, rfl, rfl⟩ := own_shape ho3
      have HO3 := Lib.hid (own_le ho3 HF2.out.size)
      have HF3 := Lib.hid (HF2.out.trans F3)
      clear ho3 F3 HW3
      go_wp2_with fail
      go_ret
      rw [HR.out]
      exact ⟨⟨a3, c3, rfl, HO3.out⟩, HF3.out⟩
end Go.Proofs.YtacekpdjapgfcaaGreatDoor

namespace Go.Q
open Go
theorem num_up : ∀ (f q : Nat) (rest : List UInt8), q < 128 ^ f → q ≤ 16777216 → numberS 0 0 ((up7 f q).reverse ++ rest) = numberS (up7 f q).length q rest
  | 0, q, rest, h, _ => by
    obtain rfl : q = 0 := by simpa using h
    rfl
  | f + 1, q, rest, h, hq => by
    rw [up7]
    by_cases h0 : q = 0
    · subst h0
      rw [if_pos rfl]
      rfl
    · rw [if_neg h0, List.reverse_cons, List.append_assoc, List.length_cons]
      have hd : q / 128 < 128 ^ f := by
        rw [Nat.pow_succ] at h
        exact Nat.div_lt_of_lt_mul (by omega)
      rw [num_up f (q / 128) _ hd (by omega)]
      have e := u8' (q % 128 + 128) (by omega)
      have hz : ¬ ((up7 f (q / 128)).length = 0 ∧ q % 128 + 128 = 128) := by
        rintro ⟨h1, h2⟩
        have h3 : q / 128 ≠ 0 := by omega
        cases f with
        | zero => simp at hd; omega
        | succ f => rw [up7, if_neg h3] at h1; simp at h1
      show numberS _ _ (UInt8.ofNat (q % 128 + 128) :: rest) = _
      rw [numberS, e, if_neg hz, if_neg (by omega), if_neg (by omega)]
      congr 1
      omega
theorem num_fwd {m : Nat} (h : m ≤ 2147483647) (rest : List UInt8) : numberS 0 0 (base128 m ++ rest) = .ok (m, (base128 m).length) := by
  unfold base128
  rw [List.reverse_cons, List.append_assoc, num_up 5 (m / 128) _ (by omega) (by omega), List.length_append, List.length_reverse]
  have e := u8' (m % 128) (by omega)
  show numberS _ _ (UInt8.ofNat (m % 128) :: rest) = _
  rw [numberS, e, if_neg (by omega), if_neg (by omega), if_pos (by omega)]
  simp only [List.length_singleton, Except.ok.injEq, Prod.mk.injEq, and_true]
  omega
theorem base_ne (m : Nat) : base128 m ≠ [] := by simp [base128]
theorem oidSt_fwd {o : List Int} (ho : o.length ≠ 32) {m : Nat} (h : m ≤ 2147483647) (rest : List UInt8) : oidStS o 0 0 (base128 m ++ rest) = oidStS (addS o m) 0 0 rest := by
  rw [oidSt_num o _ 0 0 (.inr (by simp [base_ne])), num_fwd h]
  simp only
  rw [if_neg ho, Nat.sub_zero, List.drop_left]
theorem oidSt_all : ∀ (r o : List Int), o ≠ [] → (∀ n ∈ r, arcOk n = true) → o.length + r.length ≤ 32 → oidStS o 0 0 (r.flatMap fun n => base128 n.toNat) = .ok (o ++ r)
  | [], o, _, _, _ => by simp [oidStS]
  | n :: t, o, h0, hr, hl => by
    have hn := hr n (List.mem_cons_self ..)
    unfold arcOk at hn
    simp only [decide_eq_true_eq] at hn
    simp only [List.length_cons] at hl
    rw [List.flatMap_cons, oidSt_fwd (by omega) (by omega)]
    have ha : addS o n.toNat = o ++ [n] := by
      unfold addS
      rw [if_neg h0]
      congr 2
      omega
    rw [ha, oidSt_all t _ (by simp) (fun m hm => hr m (List.mem_cons_of_mem _ hm)) (by simp; omega)]
    simp
theorem oidParse_fwd {o : List Int} (h : oidOk o = true) : oidParseS (oidBytes o) = .ok o := by
  have h' := h
  unfold oidOk at h
  simp only [Bool.and_eq_true, decide_eq_true_eq] at h
  obtain ⟨⟨⟨g1, g2⟩, g3⟩, g4⟩ := h
  obtain ⟨a, b, r, rfl⟩ : ∃ a b r, o = a :: b :: r := by
    match o, g1 with
    | a :: b :: r, _ => exact ⟨a, b, r, rfl⟩
    | [a], g1 => simp at g1
    | [], g1 => simp at g1
  rw [List.all_eq_true] at g3
  have ha := g3 a (by simp)
  have hb := g3 b (by simp)
  unfold arcOk at ha hb
  simp only [decide_eq_true_eq] at ha hb
  simp only [List.getD_cons_zero, List.getD_cons_succ, twoOk, Bool.or_eq_true, Bool.and_eq_true, decide_eq_true_eq] at g4
  simp only [List.length_cons] at g2
  have he : oidBytes (a :: b :: r) = base128 (40 * a + b).toNat ++ r.flatMap fun n => base128 n.toNat := by
    simp only [oidBytes, Go.Proofs.YtacekpdjapgfcaaGreatDoor.numsS, List.getD_cons_zero, List.getD_cons_succ, List.drop_succ_cons, List.drop_zero, List.flatMap_cons]
  unfold oidParseS
  rw [he, if_neg (by simp [base_ne]), oidSt_fwd (by simp) (by omega)]
  have hs : addS [] (40 * a + b).toNat = [a, b] := by
    unfold addS
    rw [if_pos rfl]
    split
    · simp only [List.cons.injEq, and_true]
      omega
    · simp only [List.cons.injEq, and_true]
      omega
  rw [hs, oidSt_all r [a, b] (by simp) (fun n hn => g3 n (by simp [hn])) (by simp; omega)]
  rfl
theorem open_fwd {t : Tag} (h : tagGood t) {y : List UInt8} (hy : y.length ≤ 16777216) (rest : List UInt8) : openS t (wrapS t y ++ rest) = .ok (y, (wrapS t y).length) := by
  unfold openS
  rw [wrap_read h hy]
  simp only
  rw [if_neg (by simp), if_neg (by rw [List.length_append, wrap_len]; omega), wrap_len]
  have e : (wrapS t y ++ rest).drop (1 + (lenBytes y.length).length) = y ++ rest := by
    unfold wrapS
    rw [Nat.add_comm, List.cons_append, List.drop_succ_cons, List.append_assoc, List.drop_left]
  rw [e, List.take_left]
theorem oidRead_fwd {o : List Int} (h : oidOk o = true) (rest : List UInt8) : oidReadS (oidWhole o ++ rest) = .ok (o, (oidWhole o).length) := by
  unfold oidReadS oidWhole
  rw [open_fwd tag6 (by have := oidBytes_len (o := o) (by unfold oidOk at h; simp only [Bool.and_eq_true, decide_eq_true_eq] at h; omega); omega)]
  simp only
  rw [oidParse_fwd h]
theorem one_of_single {b : List UInt8} (h : singleB b = true) : ∃ t k n, oneS b = .ok (t, k, n) ∧ ¬ n < b.length := by
  unfold singleB at h
  split at h
  · rename_i ls hls
    cases b with
    | nil => rw [allS_nil] at hls; cases hls; simp at h
    | cons x t =>
      unfold allS at hls
      simp only [List.length_cons, wholesS] at hls
      split at hls
      · cases hls
      · rename_i u k n hn
        split at hls
        · cases hls
        · rename_i l hl
          simp only [Except.ok.injEq] at hls
          subst hls
          refine ⟨_, _, _, hn, fun hlt => ?_⟩
          simp only [List.length_cons, beq_iff_eq, Nat.add_eq_right, List.length_eq_zero_iff] at h
          subst h
          have hd : (x :: t).drop n ≠ [] := by
            rw [Ne, List.drop_eq_nil_iff]
            omega
          cases hq : (x :: t).drop n with
          | nil => exact hd hq
          | cons y s =>
            rw [hq] at hl
            cases ht : t.length with
            | zero => rw [ht] at hl; simp [wholesS] at hl
            | succ f =>
              rw [ht] at hl
              simp only [wholesS] at hl
              split at hl
              · cases hl
              · split at hl
                · cases hl
                · cases hl
  · cases h
theorem part_fwd {p : Part} {x : List UInt8} (h : attrS p.o p.b = some x) (hb : p.b.length ≤ 16000000) (rest : List UInt8) : partReadS (x ++ rest) = .ok (p, x.length) ∧ x ≠ [] := by
  unfold attrS at h
  split at h
  · rename_i h0
    simp only [Bool.and_eq_true] at h0
    simp only [Option.some.injEq] at h
    subst h
    have hol := oidWhole_len (o := p.o) (by have := h0.1; unfold oidOk at this; simp only [Bool.and_eq_true, decide_eq_true_eq] at this; omega)
    refine ⟨?_, by simp [wrapS]⟩
    unfold partReadS
    rw [open_fwd tag16 (by rw [List.length_append]; omega)]
    simp only
    rw [oidRead_fwd h0.1]
    simp only
    rw [List.drop_left]
    obtain ⟨t, k, n, hn, hlt⟩ := one_of_single h0.2
    rw [hn]
    simp only
    rw [if_neg (by rw [List.length_append]; omega)]
  · cases h
theorem stepsS_last (y : Option (List UInt8)) (x : List UInt8) (p : Part) (t : List Part) (ws : List (List UInt8)) (ha : attrS p.o p.b = some x) (hc : ∀ z, y = some z → cmpS z x < 0) (h : stepsS (some x) t = some ws) : stepsS y (p :: t) = some (x :: ws) := by
  simp only [stepsS, ha, h]
  cases y with
  | none => rfl
  | some z =>
    have := hc z rfl
    simp only
    rw [if_neg (by simp; omega)]
    rfl
theorem rdnGo_back : ∀ (f : Nat) (out : List Part) (last l : List UInt8) (r : List Part), out.length ≤ 16 → l.length ≤ f → rdnGoS f out last l = .ok r → ∃ t ws, r = out ++ t ∧ stepsS (if out.length = 0 then none else some last) t = some ws ∧ ws.flatten = l ∧ r.length ≤ 16 ∧ r.length ≠ 0
  | f, out, last, [], r, ho, hl, h => by
    have h' : (if out.length = 0 then (.error 6 : Except Int (List Part)) else .ok out) = .ok r := by cases f <;> exact h
    split at h'
    · cases h'
    · rename_i h0
      cases h'
      exact ⟨[], [], by simp, rfl, rfl, ho, h0⟩
  | 0, out, last, x :: t, r, ho, hl, h => by simp at hl
  | f + 1, out, last, x :: t, r, ho, hl, h => by
    simp only [rdnGoS] at h
    split at h
    · cases h
    rename_i h16
    split at h
    · cases h
    rename_i p m hx
    obtain ⟨hb1, hb2, hb3, hb4⟩ := partRead_back hx
    split at h
    · cases h
    rename_i hc1
    split at h
    · cases h
    rename_i hc2
    obtain ⟨t', ws, rfl, h2, h3, h4, h5⟩ := rdnGo_back f (out ++ [p]) _ _ r (by rw [List.length_append, List.length_singleton]; omega) (by simp only [List.length_drop, List.length_cons] at hl ⊢; omega) h
    rw [if_neg (by simp)] at h2
    refine ⟨p :: t', (x :: t).take m :: ws, by simp, stepsS_last _ _ p t' ws hb1 (fun z hz => ?_) h2, ?_, h4, h5⟩
    · split at hz
      · cases hz
      · rename_i h0
        simp only [Option.some.injEq] at hz
        subst hz
        omega
    · rw [List.flatten_cons, h3, List.take_append_drop]
theorem rdnRead_back {l : List UInt8} {r : List Part} {k : Nat} (h : rdnReadS l = .ok (r, k)) : ∃ ws, rdnS r = some ws ∧ l.take k = rdnWhole ws ∧ k ≤ l.length ∧ 1 ≤ k := by
  have hk := rdnRead_len h
  unfold rdnReadS at h
  split at h
  · cases h
  rename_i x k' hx
  split at h
  · cases h
  rename_i r' hr
  simp only [Except.ok.injEq, Prod.mk.injEq] at h
  obtain ⟨rfl, rfl⟩ := h
  obtain ⟨h1, -, -, -⟩ := open_back hx tag17
  obtain ⟨t, ws, g1, g2, g3, g4, g5⟩ := rdnGo_back _ [] [] x _ (by simp) (Nat.le_refl _) hr
  rw [List.nil_append] at g1
  subst g1
  refine ⟨ws, ?_, by rw [h1, ← g3]; rfl, hk⟩
  unfold rdnS
  rw [if_neg (by omega)]
  exact g2
theorem nameGo_back : ∀ (f : Nat) (out : List (List Part)) (l : List UInt8) (n : List (List Part)), out.length ≤ 64 → l.length ≤ f → nameGoS f out l = .ok n → ∃ t, n = out ++ t ∧ (∀ r ∈ t, (rdnS r).isSome = true) ∧ (wholesN t).flatten = l ∧ n.length ≤ 64
  | f, out, [], n, ho, hl, h => by
    have h' : (.ok out : Except Int (List (List Part))) = .ok n := by cases f <;> exact h
    cases h'
    exact ⟨[], by simp, by simp, rfl, ho⟩
  | 0, out, x :: t, n, ho, hl, h => by simp at hl
  | f + 1, out, x :: t, n, ho, hl, h => by
    simp only [nameGoS] at h
    split at h
    · cases h
    rename_i h64
    split at h
    · cases h
    rename_i r k hx
    obtain ⟨ws, hb1, hb2, hb3, hb4⟩ := rdnRead_back hx
    obtain ⟨t', rfl, h2, h3, h4⟩ := nameGo_back f (out ++ [r]) _ n (by rw [List.length_append, List.length_singleton]; omega) (by simp only [List.length_drop, List.length_cons] at hl ⊢; omega) h
    refine ⟨r :: t', by simp, fun q hq => ?_, ?_, h4⟩
    · rcases List.mem_cons.1 hq with rfl | hq
      · rw [hb1]; rfl
      · exact h2 q hq
    · have e : wholesN (r :: t') = rdnWhole ws :: wholesN t' := by
        unfold wholesN
        rw [List.map_cons, hb1]
        rfl
      rw [e, List.flatten_cons, h3, ← hb2, List.take_append_drop]
theorem nameParse_back {l : List UInt8} {n : List (List Part)} (h : nameParseS l = .ok n) : nameOk n = true ∧ nameWhole n = l := by
  unfold nameParseS at h
  split at h
  · cases h
  rename_i n' k hr
  split at h
  · cases h
  rename_i hk
  simp only [Except.ok.injEq] at h
  subst h
  unfold nameReadS at hr
  split at hr
  · cases hr
  rename_i x k' hx
  split at hr
  · cases hr
  rename_i n2 hn
  simp only [Except.ok.injEq, Prod.mk.injEq] at hr
  obtain ⟨rfl, rfl⟩ := hr
  obtain ⟨h1, -, h3, -⟩ := open_back hx tag16
  obtain ⟨t, g1, g2, g3, g4⟩ := nameGo_back _ [] x _ (by simp) (Nat.le_refl _) hn
  rw [List.nil_append] at g1
  subst g1
  refine ⟨?_, ?_⟩
  · unfold nameOk
    rw [Bool.and_eq_true]
    exact ⟨decide_eq_true g4, List.all_eq_true.2 g2⟩
  · unfold nameWhole
    rw [g3, ← h1, List.take_of_length_le (by omega)]
theorem rdnGo_fwd : ∀ (t : List Part) (ws : List (List UInt8)) (out : List Part) (last : List UInt8) (f : Nat), stepsS (if out.length = 0 then none else some last) t = some ws → out.length + t.length ≤ 16 → out.length + t.length ≠ 0 → (∀ p ∈ t, p.b.length ≤ 16000000) → ws.flatten.length ≤ f → rdnGoS f out last ws.flatten = .ok (out ++ t)
  | [], ws, out, last, f, h, h16, h0, hb, hf => by
    simp only [stepsS, Option.some.injEq] at h
    subst h
    have e : rdnGoS f out last [] = if out.length = 0 then .error 6 else .ok out := by cases f <;> rfl
    rw [List.flatten_nil, e, if_neg (by simpa using h0), List.append_nil]
  | p :: t, ws, out, last, f, h, h16, h0, hb, hf => by
    obtain ⟨x, ws', h1, h2, rfl, h3⟩ := steps_in h
    obtain ⟨h4, h5⟩ := part_fwd h1 (hb p (List.mem_cons_self ..)) ws'.flatten
    rw [List.flatten_cons] at hf ⊢
    simp only [List.length_cons, List.length_append] at h16 hf
    cases x with
    | nil => exact absurd rfl h5
    | cons y s =>
      simp only [List.length_cons] at hf
      obtain ⟨f, rfl⟩ : ∃ f', f = f' + 1 := ⟨f - 1, by omega⟩
      rw [List.cons_append] at h4 ⊢
      simp only [rdnGoS]
      rw [if_neg (by omega), h4]
      simp only
      have e1 : (y :: (s ++ ws'.flatten)).take (y :: s).length = y :: s := by rw [← List.cons_append, List.take_left]
      have e2 : (y :: (s ++ ws'.flatten)).drop (y :: s).length = ws'.flatten := by rw [← List.cons_append, List.drop_left]
      rw [e1, e2]
      have hc : out.length ≠ 0 → cmpS last (y :: s) < 0 := fun h0 => h3 last (by rw [if_neg h0])
      rw [if_neg (fun hh => by have := hc hh.1; omega), if_neg (fun hh => by have := hc hh.1; omega)]
      rw [rdnGo_fwd t ws' (out ++ [p]) (y :: s) f (by rw [if_neg (by simp)]; exact h2) (by simp; omega) (by simp) (fun q hq => hb q (List.mem_cons_of_mem _ hq)) (by omega)]
      simp
theorem rdnRead_fwd {r : List Part} {ws : List (List UInt8)} (h : rdnS r = some ws) (hb : ∀ p ∈ r, p.b.length ≤ 16000000) (hl : ws.flatten.length ≤ 16777216) (rest : List UInt8) : rdnReadS (rdnWhole ws ++ rest) = .ok (r, (rdnWhole ws).length) := by
  unfold rdnS at h
  split at h
  · cases h
  rename_i hr
  unfold rdnReadS rdnWhole
  rw [open_fwd tag17 hl]
  simp only [rdnSt]
  rw [rdnGo_fwd r ws [] [] _ h (by rw [List.length_nil]; omega) (by rw [List.length_nil]; omega) hb (Nat.le_refl _)]
  rfl
theorem nameGo_fwd : ∀ (t out : List (List Part)) (f : Nat), (∀ r ∈ t, (rdnS r).isSome = true) → (∀ r ∈ t, ∀ p ∈ r, p.b.length ≤ 16000000) → out.length + t.length ≤ 64 → (wholesN t).flatten.length ≤ 16777216 → (wholesN t).flatten.length ≤ f → nameGoS f out (wholesN t).flatten = .ok (out ++ t)
  | [], out, f, _, _, _, _, _ => by
    have e : nameGoS f out [] = .ok out := by cases f <;> rfl
    rw [List.append_nil]
    exact e
  | r :: t, out, f, h, hb, h64, hl, hf => by
    obtain ⟨ws, hws⟩ := Option.isSome_iff_exists.1 (h r (List.mem_cons_self ..))
    have e : wholesN (r :: t) = rdnWhole ws :: wholesN t := by
      unfold wholesN
      rw [List.map_cons, hws]
      rfl
    rw [e, List.flatten_cons] at hl hf ⊢
    rw [List.length_append] at hl hf
    have hwl : (rdnWhole ws).length = 1 + (lenBytes ws.flatten.length).length + ws.flatten.length := wrap_len _ _
    have hx := rdnRead_fwd hws (hb r (List.mem_cons_self ..)) (by omega) (wholesN t).flatten
    generalize hW : rdnWhole ws = W at *
    cases W with
    | nil => simp at hwl; omega
    | cons y s =>
      simp only [List.length_cons] at hf h64
      obtain ⟨f, rfl⟩ : ∃ f', f = f' + 1 := ⟨f - 1, by omega⟩
      rw [List.cons_append] at hx ⊢
      simp only [nameGoS]
      rw [if_neg (by omega), hx]
      simp only
      have e2 : (y :: (s ++ (wholesN t).flatten)).drop (y :: s).length = (wholesN t).flatten := by rw [← List.cons_append, List.drop_left]
      rw [e2, nameGo_fwd t (out ++ [r]) f (fun q hq => h q (List.mem_cons_of_mem _ hq)) (fun q hq => hb q (List.mem_cons_of_mem _ hq)) (by simp; omega) (by omega) (by omega)]
      simp
theorem nameParse_fwd {n : List (List Part)} (h : nameOk n = true) (hb : ∀ r ∈ n, ∀ p ∈ r, p.b.length ≤ 16000000) (hl : (wholesN n).flatten.length ≤ 16777216) : nameParseS (nameWhole n) = .ok n := by
  obtain ⟨h1, h2⟩ := name_rdns h
  have e := open_fwd tag16 hl []
  rw [List.append_nil] at e
  unfold nameParseS nameReadS nameWhole
  rw [e]
  simp only [nameSt]
  rw [nameGo_fwd n [] _ h2 hb (by simpa using h1) hl (Nat.le_refl _)]
  simp
end Go.Q
