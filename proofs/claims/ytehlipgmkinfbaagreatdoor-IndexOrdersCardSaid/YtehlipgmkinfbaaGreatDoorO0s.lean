/-
  Merged by program: XWh6 XWh7 XIxKn XIxNil XR02O XR04P XR15 XR14R XR14P.
-/
import Derived.Test.YtehlipgmkinfbaaGreatDoorO0n
import Derived.Test.YtehlipgmkinfbaaGreatDoorO0c
import Derived.Test.YtehlipgmkinfbaaGreatDoorO0g
import Derived.Test.YtehlipgmkinfbaaGreatDoorO0a
import Derived.Test.YtehlipgmkinfbaaGreatDoorO0j
import Derived.Test.YtehlipgmkinfbaaGreatDoorO0r
import Derived.Test.YtehlipgmkinfbaaGreatDoorO0p
import Derived.Test.YtehlipgmkinfbaaGreatDoorO0o
import Derived.Test.YtehlipgmkinfbaaGreatDoorO0m
import Derived.Test.YtehlipgmkinfbaaGreatDoorO0l
import Derived.Test.YtehlipgmkinfbaaGreatDoorO0k
import Derived.Deep.QuietTactic
import Derived.BigQuiet
import Derived.Deep.RegionHeld3
import Derived.Test.YtehlipgmkinfbaaGreatDoorO0i
import Derived.Test.YtehlipgmkinfbaaGreatDoorO0d
namespace Go.Proofs.YtehlipgmkinfbaaGreatDoor
open Go Go.RowKit Go.Q
set_option linter.unusedSimpArgs false
set_option maxRecDepth 20000 in
set_option maxHeartbeats 4000000 in
theorem wPattern_any (k : Nat) (hk : k = 3 ∨ k = 5) (w : World) :
    Calls Tryz.prog 74 #[.int .u64 k] w fun e w' => (e = .returned (.slice (some ⟨w.heap.size, 0, none⟩) 8 8) ∧ Bytes w' (.slice (some ⟨w.heap.size, 0, none⟩) 8 8) [0, 0, 0, 0, 0, 0, 0, UInt8.ofNat k]) ∧ Fr (fun _ => False) w w' := by
  obtain ⟨z, hz⟩ : ∃ z, z = w.heap.size := ⟨_, rfl⟩
  have HZ := Lib.hid hz
  have hmk : (Instr.makeSlice 38 (.int .i64 8) (.int .i64 8)).run Tryz.prog w = .ok (.slice (some ⟨w.heap.size, 0, none⟩) 8 8) (w.alloc (.cells #[.int .u8 0, .int .u8 0, .int .u8 0, .int .u8 0, .int .u8 0, .int .u8 0, .int .u8 0, .int .u8 0] 5)) := by
    have h := make_bytes 8 (by decide) w
    have e : madeCells #[.int .u8 0] 8 = #[.int .u8 0, .int .u8 0, .int .u8 0, .int .u8 0, .int .u8 0, .int .u8 0, .int .u8 0, .int .u8 0] := Array.toList_inj.1 (by rw [made_zero]; rfl)
    rw [e] at h
    exact h
  rw [← hz] at hmk ⊢
  have B0 := Blk.new w 5 #[.int .u8 0, .int .u8 0, .int .u8 0, .int .u8 0, .int .u8 0, .int .u8 0, .int .u8 0, .int .u8 0]
  rw [← hz] at B0
  have HB0 := Lib.hid B0
  have HF0 := Lib.hid ((Fr.refl w).alloc (.cells #[.int .u8 0, .int .u8 0, .int .u8 0, .int .u8 0, .int .u8 0, .int .u8 0, .int .u8 0, .int .u8 0] 5) : Fr (fun _ => False) w _)
  have hkk : (k : Int) = 3 ∨ (k : Int) = 5 := by omega
  clear B0 hz
  go_enter Tryz.func74, Tryz.ntmps74
  go_wp2_with fail
  go_loopg [8] 8 (fun g i wr => ∃ j : Nat, g = 8 - j ∧ j ≤ 8 ∧ i = .int .i64 j ∧ Blk wr z 5 (if j = 8 then #[.int .u8 0, .int .u8 0, .int .u8 0, .int .u8 0, .int .u8 0, .int .u8 0, .int .u8 0, .int .u8 k] else #[.int .u8 0, .int .u8 0, .int .u8 0, .int .u8 0, .int .u8 0, .int .u8 0, .int .u8 0, .int .u8 0]) ∧ Fr (fun _ => False) w wr)
  case atStart => exact ⟨0, rfl, by decide, rfl, HB0.out, HF0.out⟩
  case round =>
    obtain ⟨j, hg, hj, rfl, B, F⟩ := hrel
    have HG := Lib.hid hg
    clear hg hmk
    rcases (by omega : j = 0 ∨ j = 1 ∨ j = 2 ∨ j = 3 ∨ j = 4 ∨ j = 5 ∨ j = 6 ∨ j = 7 ∨ j = 8) with rfl | rfl | rfl | rfl | rfl | rfl | rfl | rfl | rfl
    · rcases hk with rfl | rfl
      · have e0 := B.cell 0
        have f0 := B.frozen 0
        simp only [show ¬ (0 : Nat) = 8 by decide, if_false] at B
        have B1 : Blk (wr.setCell ⟨z, 0, none⟩ (.int .u8 0)) z 5 #[.int .u8 0, .int .u8 0, .int .u8 0, .int .u8 0, .int .u8 0, .int .u8 0, .int .u8 0, .int .u8 0] := B.set 0 _
        have HB1 := Lib.hid B1
        have HF1 := Lib.hid (F.trans' (Fr.setCell (S := fun k => k = z) (p := ⟨z, 0, none⟩) (Fr.refl wr) (fun _ => rfl) (.int .u8 0)) (fun i hi e => by have e2 : i = z := e; have := HZ.out; omega))
        simp only [show ¬ (0 : Nat) = 8 by decide, if_false, List.getElem?_toArray, List.getElem?_cons_succ, List.getElem?_cons_zero] at e0
        clear B B1 F
        go_wp2_with fail
        go_roundg (8 - 1)
        case measure => rw [HG.out]; decide
        case rel => exact ⟨1, rfl, by decide, by go_num, HB1.out, HF1.out⟩
      · have e0 := B.cell 0
        have f0 := B.frozen 0
        simp only [show ¬ (0 : Nat) = 8 by decide, if_false] at B
        have B1 : Blk (wr.setCell ⟨z, 0, none⟩ (.int .u8 0)) z 5 #[.int .u8 0, .int .u8 0, .int .u8 0, .int .u8 0, .int .u8 0, .int .u8 0, .int .u8 0, .int .u8 0] := B.set 0 _
        have HB1 := Lib.hid B1
        have HF1 := Lib.hid (F.trans' (Fr.setCell (S := fun k => k = z) (p := ⟨z, 0, none⟩) (Fr.refl wr) (fun _ => rfl) (.int .u8 0)) (fun i hi e => by have e2 : i = z := e; have := HZ.out; omega))
        simp only [show ¬ (0 : Nat) = 8 by decide, if_false, List.getElem?_toArray, List.getElem?_cons_succ, List.getElem?_cons_zero] at e0
        clear B B1 F
        go_wp2_with fail
        go_roundg (8 - 1)
        case measure => rw [HG.out]; decide
        case rel => exact ⟨1, rfl, by decide, by go_num, HB1.out, HF1.out⟩
    · rcases hk with rfl | rfl
      · have e0 := B.cell 1
        have f0 := B.frozen 1
        simp only [show ¬ (1 : Nat) = 8 by decide, if_false] at B
        have B1 : Blk (wr.setCell ⟨z, 1, none⟩ (.int .u8 0)) z 5 #[.int .u8 0, .int .u8 0, .int .u8 0, .int .u8 0, .int .u8 0, .int .u8 0, .int .u8 0, .int .u8 0] := B.set 1 _
        have HB1 := Lib.hid B1
        have HF1 := Lib.hid (F.trans' (Fr.setCell (S := fun k => k = z) (p := ⟨z, 1, none⟩) (Fr.refl wr) (fun _ => rfl) (.int .u8 0)) (fun i hi e => by have e2 : i = z := e; have := HZ.out; omega))
        simp only [show ¬ (1 : Nat) = 8 by decide, if_false, List.getElem?_toArray, List.getElem?_cons_succ, List.getElem?_cons_zero] at e0
        clear B B1 F
        go_wp2_with fail
        go_roundg (8 - 2)
        case measure => rw [HG.out]; decide
        case rel => exact ⟨2, rfl, by decide, by go_num, HB1.out, HF1.out⟩
      · have e0 := B.cell 1
        have f0 := B.frozen 1
        simp only [show ¬ (1 : Nat) = 8 by decide, if_false] at B
        have B1 : Blk (wr.setCell ⟨z, 1, none⟩ (.int .u8 0)) z 5 #[.int .u8 0, .int .u8 0, .int .u8 0, .int .u8 0, .int .u8 0, .int .u8 0, .int .u8 0, .int .u8 0] := B.set 1 _
        have HB1 := Lib.hid B1
        have HF1 := Lib.hid (F.trans' (Fr.setCell (S := fun k => k = z) (p := ⟨z, 1, none⟩) (Fr.refl wr) (fun _ => rfl) (.int .u8 0)) (fun i hi e => by have e2 : i = z := e; have := HZ.out; omega))
        simp only [show ¬ (1 : Nat) = 8 by decide, if_false, List.getElem?_toArray, List.getElem?_cons_succ, List.getElem?_cons_zero] at e0
        clear B B1 F
        go_wp2_with fail
        go_roundg (8 - 2)
        case measure => rw [HG.out]; decide
        case rel => exact ⟨2, rfl, by decide, by go_num, HB1.out, HF1.out⟩
    · rcases hk with rfl | rfl
      · have e0 := B.cell 2
        have f0 := B.frozen 2
        simp only [show ¬ (2 : Nat) = 8 by decide, if_false] at B
        have B1 : Blk (wr.setCell ⟨z, 2, none⟩ (.int .u8 0)) z 5 #[.int .u8 0, .int .u8 0, .int .u8 0, .int .u8 0, .int .u8 0, .int .u8 0, .int .u8 0, .int .u8 0] := B.set 2 _
        have HB1 := Lib.hid B1
        have HF1 := Lib.hid (F.trans' (Fr.setCell (S := fun k => k = z) (p := ⟨z, 2, none⟩) (Fr.refl wr) (fun _ => rfl) (.int .u8 0)) (fun i hi e => by have e2 : i = z := e; have := HZ.out; omega))
        simp only [show ¬ (2 : Nat) = 8 by decide, if_false, List.getElem?_toArray, List.getElem?_cons_succ, List.getElem?_cons_zero] at e0
        clear B B1 F
        go_wp2_with fail
        go_roundg (8 - 3)
        case measure => rw [HG.out]; decide
        case rel => exact ⟨3, rfl, by decide, by go_num, HB1.out, HF1.out⟩
      · have e0 := B.cell 2
        have f0 := B.frozen 2
        simp only [show ¬ (2 : Nat) = 8 by decide, if_false] at B
        have B1 : Blk (wr.setCell ⟨z, 2, none⟩ (.int .u8 0)) z 5 #[.int .u8 0, .int .u8 0, .int .u8 0, .int .u8 0, .int .u8 0, .int .u8 0, .int .u8 0, .int .u8 0] := B.set 2 _
        have HB1 := Lib.hid B1
        have HF1 := Lib.hid (F.trans' (Fr.setCell (S := fun k => k = z) (p := ⟨z, 2, none⟩) (Fr.refl wr) (fun _ => rfl) (.int .u8 0)) (fun i hi e => by have e2 : i = z := e; have := HZ.out; omega))
        simp only [show ¬ (2 : Nat) = 8 by decide, if_false, List.getElem?_toArray, List.getElem?_cons_succ, List.getElem?_cons_zero] at e0
        clear B B1 F
        go_wp2_with fail
        go_roundg (8 - 3)
        case measure => rw [HG.out]; decide
        case rel => exact ⟨3, rfl, by decide, by go_num, HB1.out, HF1.out⟩
    · rcases hk with rfl | rfl
      · have e0 := B.cell 3
        have f0 := B.frozen 3
        simp only [show ¬ (3 : Nat) = 8 by decide, if_false] at B
        have B1 : Blk (wr.setCell ⟨z, 3, none⟩ (.int .u8 0)) z 5 #[.int .u8 0, .int .u8 0, .int .u8 0, .int .u8 0, .int .u8 0, .int .u8 0, .int .u8 0, .int .u8 0] := B.set 3 _
        have HB1 := Lib.hid B1
        have HF1 := Lib.hid (F.trans' (Fr.setCell (S := fun k => k = z) (p := ⟨z, 3, none⟩) (Fr.refl wr) (fun _ => rfl) (.int .u8 0)) (fun i hi e => by have e2 : i = z := e; have := HZ.out; omega))
        simp only [show ¬ (3 : Nat) = 8 by decide, if_false, List.getElem?_toArray, List.getElem?_cons_succ, List.getElem?_cons_zero] at e0
        clear B B1 F
        go_wp2_with fail
        go_roundg (8 - 4)
        case measure => rw [HG.out]; decide
        case rel => exact ⟨4, rfl, by decide, by go_num, HB1.out, HF1.out⟩
      · have e0 := B.cell 3
        have f0 := B.frozen 3
        simp only [show ¬ (3 : Nat) = 8 by decide, if_false] at B
        have B1 : Blk (wr.setCell ⟨z, 3, none⟩ (.int .u8 0)) z 5 #[.int .u8 0, .int .u8 0, .int .u8 0, .int .u8 0, .int .u8 0, .int .u8 0, .int .u8 0, .int .u8 0] := B.set 3 _
        have HB1 := Lib.hid B1
        have HF1 := Lib.hid (F.trans' (Fr.setCell (S := fun k => k = z) (p := ⟨z, 3, none⟩) (Fr.refl wr) (fun _ => rfl) (.int .u8 0)) (fun i hi e => by have e2 : i = z := e; have := HZ.out; omega))
        simp only [show ¬ (3 : Nat) = 8 by decide, if_false, List.getElem?_toArray, List.getElem?_cons_succ, List.getElem?_cons_zero] at e0
        clear B B1 F
        go_wp2_with fail
        go_roundg (8 - 4)
        case measure => rw [HG.out]; decide
        case rel => exact ⟨4, rfl, by decide, by go_num, HB1.out, HF1.out⟩
    · rcases hk with rfl | rfl
      · have e0 := B.cell 4
        have f0 := B.frozen 4
        simp only [show ¬ (4 : Nat) = 8 by decide, if_false] at B
        have B1 : Blk (wr.setCell ⟨z, 4, none⟩ (.int .u8 0)) z 5 #[.int .u8 0, .int .u8 0, .int .u8 0, .int .u8 0, .int .u8 0, .int .u8 0, .int .u8 0, .int .u8 0] := B.set 4 _
        have HB1 := Lib.hid B1
        have HF1 := Lib.hid (F.trans' (Fr.setCell (S := fun k => k = z) (p := ⟨z, 4, none⟩) (Fr.refl wr) (fun _ => rfl) (.int .u8 0)) (fun i hi e => by have e2 : i = z := e; have := HZ.out; omega))
        simp only [show ¬ (4 : Nat) = 8 by decide, if_false, List.getElem?_toArray, List.getElem?_cons_succ, List.getElem?_cons_zero] at e0
        clear B B1 F
        go_wp2_with fail
        go_roundg (8 - 5)
        case measure => rw [HG.out]; decide
        case rel => exact ⟨5, rfl, by decide, by go_num, HB1.out, HF1.out⟩
      · have e0 := B.cell 4
        have f0 := B.frozen 4
        simp only [show ¬ (4 : Nat) = 8 by decide, if_false] at B
        have B1 : Blk (wr.setCell ⟨z, 4, none⟩ (.int .u8 0)) z 5 #[.int .u8 0, .int .u8 0, .int .u8 0, .int .u8 0, .int .u8 0, .int .u8 0, .int .u8 0, .int .u8 0] := B.set 4 _
        have HB1 := Lib.hid B1
        have HF1 := Lib.hid (F.trans' (Fr.setCell (S := fun k => k = z) (p := ⟨z, 4, none⟩) (Fr.refl wr) (fun _ => rfl) (.int .u8 0)) (fun i hi e => by have e2 : i = z := e; have := HZ.out; omega))
        simp only [show ¬ (4 : Nat) = 8 by decide, if_false, List.getElem?_toArray, List.getElem?_cons_succ, List.getElem?_cons_zero] at e0
        clear B B1 F
        go_wp2_with fail
        go_roundg (8 - 5)
        case measure => rw [HG.out]; decide
        case rel => exact ⟨5, rfl, by decide, by go_num, HB1.out, HF1.out⟩
    · rcases hk with rfl | rfl
      · have e0 := B.cell 5
        have f0 := B.frozen 5
        simp only [show ¬ (5 : Nat) = 8 by decide, if_false] at B
        have B1 : Blk (wr.setCell ⟨z, 5, none⟩ (.int .u8 0)) z 5 #[.int .u8 0, .int .u8 0, .int .u8 0, .int .u8 0, .int .u8 0, .int .u8 0, .int .u8 0, .int .u8 0] := B.set 5 _
        have HB1 := Lib.hid B1
        have HF1 := Lib.hid (F.trans' (Fr.setCell (S := fun k => k = z) (p := ⟨z, 5, none⟩) (Fr.refl wr) (fun _ => rfl) (.int .u8 0)) (fun i hi e => by have e2 : i = z := e; have := HZ.out; omega))
        simp only [show ¬ (5 : Nat) = 8 by decide, if_false, List.getElem?_toArray, List.getElem?_cons_succ, List.getElem?_cons_zero] at e0
        clear B B1 F
        go_wp2_with fail
        go_roundg (8 - 6)
        case measure => rw [HG.out]; decide
        case rel => exact ⟨6, rfl, by decide, by go_num, HB1.out, HF1.out⟩
      · have e0 := B.cell 5
        have f0 := B.frozen 5
        simp only [show ¬ (5 : Nat) = 8 by decide, if_false] at B
        have B1 : Blk (wr.setCell ⟨z, 5, none⟩ (.int .u8 0)) z 5 #[.int .u8 0, .int .u8 0, .int .u8 0, .int .u8 0, .int .u8 0, .int .u8 0, .int .u8 0, .int .u8 0] := B.set 5 _
        have HB1 := Lib.hid B1
        have HF1 := Lib.hid (F.trans' (Fr.setCell (S := fun k => k = z) (p := ⟨z, 5, none⟩) (Fr.refl wr) (fun _ => rfl) (.int .u8 0)) (fun i hi e => by have e2 : i = z := e; have := HZ.out; omega))
        simp only [show ¬ (5 : Nat) = 8 by decide, if_false, List.getElem?_toArray, List.getElem?_cons_succ, List.getElem?_cons_zero] at e0
        clear B B1 F
        go_wp2_with fail
        go_roundg (8 - 6)
        case measure => rw [HG.out]; decide
        case rel => exact ⟨6, rfl, by decide, by go_num, HB1.out, HF1.out⟩
    · rcases hk with rfl | rfl
      · have e0 := B.cell 6
        have f0 := B.frozen 6
        simp only [show ¬ (6 : Nat) = 8 by decide, if_false] at B
        have B1 : Blk (wr.setCell ⟨z, 6, none⟩ (.int .u8 0)) z 5 #[.int .u8 0, .int .u8 0, .int .u8 0, .int .u8 0, .int .u8 0, .int .u8 0, .int .u8 0, .int .u8 0] := B.set 6 _
        have HB1 := Lib.hid B1
        have HF1 := Lib.hid (F.trans' (Fr.setCell (S := fun k => k = z) (p := ⟨z, 6, none⟩) (Fr.refl wr) (fun _ => rfl) (.int .u8 0)) (fun i hi e => by have e2 : i = z := e; have := HZ.out; omega))
        simp only [show ¬ (6 : Nat) = 8 by decide, if_false, List.getElem?_toArray, List.getElem?_cons_succ, List.getElem?_cons_zero] at e0
        clear B B1 F
        go_wp2_with fail
        go_roundg (8 - 7)
        case measure => rw [HG.out]; decide
        case rel => exact ⟨7, rfl, by decide, by go_num, HB1.out, HF1.out⟩
      · have e0 := B.cell 6
        have f0 := B.frozen 6
        simp only [show ¬ (6 : Nat) = 8 by decide, if_false] at B
        have B1 : Blk (wr.setCell ⟨z, 6, none⟩ (.int .u8 0)) z 5 #[.int .u8 0, .int .u8 0, .int .u8 0, .int .u8 0, .int .u8 0, .int .u8 0, .int .u8 0, .int .u8 0] := B.set 6 _
        have HB1 := Lib.hid B1
        have HF1 := Lib.hid (F.trans' (Fr.setCell (S := fun k => k = z) (p := ⟨z, 6, none⟩) (Fr.refl wr) (fun _ => rfl) (.int .u8 0)) (fun i hi e => by have e2 : i = z := e; have := HZ.out; omega))
        simp only [show ¬ (6 : Nat) = 8 by decide, if_false, List.getElem?_toArray, List.getElem?_cons_succ, List.getElem?_cons_zero] at e0
        clear B B1 F
        go_wp2_with fail
        go_roundg (8 - 7)
        case measure => rw [HG.out]; decide
        case rel => exact ⟨7, rfl, by decide, by go_num, HB1.out, HF1.out⟩
    · rcases hk with rfl | rfl
      · have e0 := B.cell 7
        have f0 := B.frozen 7
        simp only [show ¬ (7 : Nat) = 8 by decide, if_false] at B
        have B1 : Blk (wr.setCell ⟨z, 7, none⟩ (.int .u8 3)) z 5 #[.int .u8 0, .int .u8 0, .int .u8 0, .int .u8 0, .int .u8 0, .int .u8 0, .int .u8 0, .int .u8 3] := B.set 7 _
        have HB1 := Lib.hid B1
        have HF1 := Lib.hid (F.trans' (Fr.setCell (S := fun k => k = z) (p := ⟨z, 7, none⟩) (Fr.refl wr) (fun _ => rfl) (.int .u8 3)) (fun i hi e => by have e2 : i = z := e; have := HZ.out; omega))
        simp only [show ¬ (7 : Nat) = 8 by decide, if_false, List.getElem?_toArray, List.getElem?_cons_succ, List.getElem?_cons_zero] at e0
        clear B B1 F
        go_wp2_with fail
        go_roundg (8 - 8)
        case measure => rw [HG.out]; decide
        case rel => exact ⟨8, rfl, by decide, by go_num, HB1.out, HF1.out⟩
      · have e0 := B.cell 7
        have f0 := B.frozen 7
        simp only [show ¬ (7 : Nat) = 8 by decide, if_false] at B
        have B1 : Blk (wr.setCell ⟨z, 7, none⟩ (.int .u8 5)) z 5 #[.int .u8 0, .int .u8 0, .int .u8 0, .int .u8 0, .int .u8 0, .int .u8 0, .int .u8 0, .int .u8 5] := B.set 7 _
        have HB1 := Lib.hid B1
        have HF1 := Lib.hid (F.trans' (Fr.setCell (S := fun k => k = z) (p := ⟨z, 7, none⟩) (Fr.refl wr) (fun _ => rfl) (.int .u8 5)) (fun i hi e => by have e2 : i = z := e; have := HZ.out; omega))
        simp only [show ¬ (7 : Nat) = 8 by decide, if_false, List.getElem?_toArray, List.getElem?_cons_succ, List.getElem?_cons_zero] at e0
        clear B B1 F
        go_wp2_with fail
        go_roundg (8 - 8)
        case measure => rw [HG.out]; decide
        case rel => exact ⟨8, rfl, by decide, by go_num, HB1.out, HF1.out⟩
    · have HF1 := Lib.hid F
      have HB1 := Lib.hid (show Bytes wr (.slice (some ⟨z, 0, none⟩) 8 8) [0, 0, 0, 0, 0, 0, 0, UInt8.ofNat k] from ⟨_, 8, rfl, Nat.le_refl _, by unfold maxLen; omega, fun _ => ⟨z, 0, rfl, fun i u hu => by
        have := B.cell (0 + i)
        rw [this]
        rcases hk with rfl | rfl <;> simpa [Lib.byteCells] using hu⟩⟩)
      clear B F
      go_wp2_with fail
      go_ret
      exact ⟨⟨rfl, HB1.out⟩, HF1.out⟩
set_option maxRecDepth 20000 in
set_option maxHeartbeats 4000000 in
theorem wOf_any (k : Nat) (hk : k = 3 ∨ k = 5) (w : World) :
    Calls Tryz.prog 43 #[.int .i64 k] w fun e w' => (∃ a c, e = .returned (.agg #[.bool false, .slice a 1 c]) ∧ Kept (fun W => Bytes W (.slice a 1 c) [UInt8.ofNat k]) (fun j => j < w.heap.size) w') ∧ Fr (fun _ => False) w w' := by
  obtain ⟨z, hz⟩ : ∃ z, z = w.heap.size := ⟨_, rfl⟩
  have HZ := Lib.hid hz
  have B0 := Blk.new w 40 #[.bool false, .slice none 0 0]
  rw [← hz] at B0
  have HB0 := Lib.hid B0
  have F0 : Fr (fun _ => False) w (w.alloc (.cells #[.bool false, .slice none 0 0] 40)) := (Fr.refl w).alloc _
  have hs0 : (w.alloc (.cells #[.bool false, .slice none 0 0] 40)).heap.size = z + 1 := by rw [World.size_alloc, hz]
  have HS0 := Lib.hid hs0
  have HF0 := Lib.hid F0
  have HP := Lib.hid (fun W => wPattern_any k hk W)
  have hx : (⟨false, [UInt8.ofNat k]⟩ : NumT) = madeS ⟨false, [0, 0, 0, 0, 0, 0, 0, UInt8.ofNat k]⟩ := by rcases hk with rfl | rfl <;> rfl
  have HM := Lib.hid (fun (v : Value) W (h : Bytes W v [0, 0, 0, 0, 0, 0, 0, UInt8.ofNat k]) => wMade_as false v [0, 0, 0, 0, 0, 0, 0, UInt8.ofNat k] _ hx W h (by simp))
  have q1 : ¬ (k : Int) < 0 := by omega
  have q2 : IntKind.u64.wrap (k : Int) = (k : Int) := by simp [IntKind.wrap, IntKind.signed, IntKind.bits]; omega
  clear hz B0 F0 hs0 hx
  go_enter Tryz.func43, Tryz.ntmps43
  go_upto_region 1 with fail
  rw [← HZ.out]
  generalize (w.alloc (.cells #[.bool false, .slice none 0 0] 40)) = w0 at *
  go_wp2_with fail
  refine (HP.out w0).mono ?_
  rintro e w1 ⟨⟨rfl, hb⟩, F1⟩
  have H2 := Lib.hid (HM.out _ w1 hb)
  have HF1 := Lib.hid F1
  clear hb HM HP F1
  go_wp2_with fail
  refine H2.out.mono ?_
  rintro e w2 ⟨⟨a, c, rfl, hk2⟩, F2⟩
  have D2 := (HB0.out.fr HF1.out (fun h => h)).fr F2 (fun h => h)
  have D5 := set2 D2 (.bool false) (.slice a 1 c)
  have d0 := D2.cell 0
  have d1 := D2.cell 1
  have f0 := D2.frozen 0
  have f1 := D2.frozen 1
  have n0 := D5.1.cell 0
  have n1 := D5.1.cell 1
  simp only [List.getElem?_toArray, List.getElem?_cons_succ, List.getElem?_cons_zero] at d0 d1 n0 n1
  have HK := Lib.hid (hk2.step (K' := fun j => j < w.heap.size) D5.2 (fun j hj e => by have := HZ.out; have := HS0.out; have := HF1.out.size; omega) (fun j hj => by have := HS0.out; have := HZ.out; have := HF1.out.size; exact .inl (by omega)))
  have HF := Lib.hid (((HF0.out.trans HF1.out).trans F2).trans' D5.2 (fun i hi e => by have := HZ.out; omega))
  clear hk2 F2 D2 D5 H2
  go_wp2_with fail
  exact bodyPost_ret (v := .agg #[.bool false, .slice a 1 c]) (by simp [results, Tryz.results43, go_sem, n0, n1]) rfl ⟨⟨a, c, rfl, HK.out⟩, HF.out⟩
end Go.Proofs.YtehlipgmkinfbaaGreatDoor

namespace Go.Proofs.YtehlipgmkinfbaaGreatDoor
open Go Go.RowKit Go.Q
set_option linter.unusedSimpArgs false
set_option maxRecDepth 20000 in
set_option maxHeartbeats 4000000 in
theorem wMadeOwn_any (v : Value) (l s : List UInt8) (hs : s = trimS l) (w : World) (h : Bytes w v l) (hl : l.length ≤ 10000000000) :
    Calls Tryz.prog 73 #[.bool false, v] w fun e w' => (∃ a c, e = .returned (.agg #[.bool false, .slice a s.length c]) ∧ ∃ base, w.heap.size ≤ base ∧ w'.ownsRow base 5 1 (.slice a s.length c) s.length (Lib.byteCells s)) ∧ Fr (fun _ => False) w w' := by
  obtain ⟨z, hz⟩ : ∃ z, z = w.heap.size := ⟨_, rfl⟩
  have HZ := Lib.hid hz
  have F0 : Fr (fun _ => False) w (w.alloc (.cells #[.bool false, .slice none 0 0] 40)) := (Fr.refl w).alloc _
  have D := Blk.new w 40 #[.bool false, .slice none 0 0]
  rw [← hz] at D
  have HT := Lib.hid (wTrim_any v l _ (h.old F0))
  rw [← hs] at HT
  have HF0 := Lib.hid F0
  have hs0 : w.heap.size + 1 = (w.alloc (.cells #[.bool false, .slice none 0 0] 40)).heap.size := by rw [World.size_alloc]
  have hsl : s.length ≤ 10000000000 := by have := trimS_le l; rw [← hs] at this; omega
  have HS0 := Lib.hid hs0
  have HSL := Lib.hid hsl
  obtain ⟨a0, c0, rfl, -⟩ := h.form
  clear hz F0 hs h hs0 hsl
  go_enter Tryz.func73, Tryz.ntmps73
  go_upto_region 1 with fail
  rw [← HZ.out]
  generalize (w.alloc (.cells #[.bool false, .slice none 0 0] 40)) = w0 at *
  go_wp2_with fail
  refine HT.out.mono ?_
  rintro e w1 ⟨⟨a1, c1, rfl, hb1⟩, F1⟩
  have HC := Lib.hid (cloneByte_any _ s w1 (hb1.old F1) (by have := HSL.out; omega))
  have HF1 := Lib.hid F1
  clear HT hb1 F1
  go_wp2_with fail
  refine HC.out.mono ?_
  rintro e w2 ⟨⟨u, rfl, hu⟩, F2⟩
  obtain ⟨a2, m, c2, rfl, rfl⟩ := own_shape hu
  have hF := HF0.out.trans (HF1.out.trans F2)
  have D2 := D.fr (HF1.out.trans F2) (fun h => h)
  have hsz := HF1.out.size
  have d0 := D2.cell 0
  have d1 := D2.cell 1
  have f0 := D2.frozen 0
  have f1 := D2.frozen 1
  have D5 := set2 D2 (.bool false) (.slice a2 s.length c2)
  have n0 := D5.1.cell 0
  have n1 := D5.1.cell 1
  simp only [List.getElem?_toArray, List.getElem?_cons_succ, List.getElem?_cons_zero] at d0 d1 n0 n1
  have HOW := Lib.hid (ownsRow_fr hu D5.2 (fun k hk e => by have := (hu.lt k hk).1; have := HZ.out; have := HS0.out; have e2 : k = z := e; omega))
  have HFF := Lib.hid (hF.trans' D5.2 (fun i hi e => by have := HZ.out; omega))
  have HSZ := Lib.hid (show w.heap.size ≤ w1.heap.size from by have := HS0.out; omega)
  clear HC F2 hu hF D D2 D5 hsz
  go_wp2_with fail
  exact bodyPost_ret (v := .agg #[.bool false, .slice a2 s.length c2]) (by simp [results, Tryz.results73, go_sem, n0, n1]) rfl ⟨⟨a2, c2, rfl, w1.heap.size, HSZ.out, HOW.out⟩, HFF.out⟩
set_option maxRecDepth 20000 in
set_option maxHeartbeats 4000000 in
theorem tenth3_any (g c : Nat) (w : World) (cur : Array Value) (B : Blk w g 5 cur) (hc : cur[0]? = some (.int .u8 3)) :
    Calls Tryz.prog 76 #[.slice (some ⟨g, 0, none⟩) 1 c] w fun e w' => (e = .returned (.int .u8 3) ∧ Blk w' g 5 (cur.setIfInBounds 0 (.int .u8 0))) ∧ Fr (fun k => k = g) w w' := by
  have e0 := B.cell 0
  have f0 := B.frozen 0
  rw [hc] at e0
  have HB := Lib.hid B
  have hbo : bits .or .i64 0 3 = 3 := by first | rfl | kernel_rfl | (unfold bits; decide) | (simp [bits]; done)
  clear B hc
  go_enter Tryz.func76, Tryz.ntmps76
  go_wp2_with fail
  go_loopg [3, 9] 1 (fun q lf i wr => (q = 1 ∧ lf = .int .i64 0 ∧ i = .int .i64 0 ∧ wr = w) ∨ (q = 0 ∧ lf = .int .i64 3 ∧ i = .int .i64 1 ∧ wr = w.setCell ⟨g, 0, none⟩ (.int .u8 0)))
  case atStart => exact .inl ⟨rfl, rfl, rfl, rfl⟩
  case round =>
    rcases hrel with ⟨hg, rfl, rfl, rfl⟩ | ⟨hg, rfl, rfl, rfl⟩
    · have HG := Lib.hid hg
      clear hg
      go_wp2_with fail
      go_roundg 0
      case measure => rw [HG.out]; decide
      case rel => exact .inr ⟨rfl, by go_num, by go_num, by first | rfl | (rw [show (wrap64 ((3 : Int).tdiv 10) % 256 : Int) = 0 from by decide])⟩
    · have HB2 := Lib.hid (HB.out.set 0 (.int .u8 0))
      have HF := Lib.hid (Fr.setCell (S := fun k => k = g) (p := ⟨g, 0, none⟩) (Fr.refl w) (fun _ => rfl) (.int .u8 0))
      clear hg e0 f0
      go_wp2_with fail
      go_ret
      exact ⟨⟨rfl, HB2.out⟩, HF.out⟩
set_option maxRecDepth 20000 in
set_option maxHeartbeats 8000000 in
theorem wText3_any (a : Option Addr) (c : Nat) (w : World) (h : Bytes w (.slice a 1 c) [3]) :
    Calls Tryz.prog 44 #[.agg #[.bool false, .slice a 1 c]] w fun e w' => e = .returned (str [51]) ∧ Fr (fun _ => False) w w' := by
  obtain ⟨z, hz⟩ : ∃ z, z = w.heap.size := ⟨_, rfl⟩
  have HZ := Lib.hid hz
  have F0 : Fr (fun _ => False) w (w.alloc (.cells #[.bool false, .slice a 1 c] 40)) := (Fr.refl w).alloc _
  have D := Blk.new w 40 #[.bool false, .slice a 1 c]
  rw [← hz] at D
  have hs0 : w.heap.size + 1 = (w.alloc (.cells #[.bool false, .slice a 1 c] 40)).heap.size := by rw [World.size_alloc]
  have HS0 := Lib.hid hs0
  have HF0 := Lib.hid F0
  have HM := Lib.hid (wMadeOwn_any _ [3] [3] (by rfl) _ (h.old F0) (by decide))
  clear hz F0 h hs0
  go_enter Tryz.func44, Tryz.ntmps44
  go_upto_region 1 with fail
  rw [← HZ.out]
  generalize (w.alloc (.cells #[.bool false, .slice a 1 c] 40)) = w0 at *
  have x0 := D.cell 0
  have x1 := D.cell 1
  simp only [List.getElem?_toArray, List.getElem?_cons_succ, List.getElem?_cons_zero] at x0 x1
  go_wp2_with fail
  refine HM.out.mono ?_
  rintro e w1 ⟨⟨a1, c1, rfl, base, hb, hu⟩, F1⟩
  rcases hu.2 with ⟨-, h0⟩ | ⟨g, cap, cur, hv, hg, hh, hnc, hcm, hcs, htk⟩
  · exact absurd h0 (by decide)
  · simp only [Value.slice.injEq] at hv
    obtain ⟨rfl, -, rfl⟩ := hv
    have BG : Blk w1 g 5 cur := hh
    have hc0 : cur[0]? = some (.int .u8 3) := by
      have := congrArg (fun q : List Value => q[0]?) htk
      simpa [List.getElem?_take, Lib.byteCells] using this
    have D1 := D.fr F1 (fun h => h)
    have D5 := set2 D1 (.bool false) (.slice (some ⟨g, 0, none⟩) 1 c1)
    have hgz : z + 1 ≤ g := by have := HZ.out; have := HS0.out; omega
    have d0 := D1.cell 0
    have d1 := D1.cell 1
    have f0 := D1.frozen 0
    have f1 := D1.frozen 1
    have BG2 := BG.fr D5.2 (by omega)
    have HF2 := Lib.hid ((HF0.out.trans F1).trans' D5.2 (fun i hi e => by have := HZ.out; omega))
    simp only [List.getElem?_toArray, List.getElem?_cons_succ, List.getElem?_cons_zero] at d0 d1
    have HD5 := Lib.hid D5.1
    have hsz : ((w1.setCell ⟨z, 0, none⟩ (.bool false)).setCell ⟨z, 1, none⟩ (.slice (some ⟨g, 0, none⟩) 1 c1)).heap.size = w1.heap.size := by simp [World.setCell]
    have HNC := Lib.hid hnc
    have HGZ := Lib.hid hgz
    clear F1 hu hh x0 x1 D D1 D5 BG hsz hnc
    simp only [List.length_cons, List.length_nil, Nat.zero_add] at *
    go_upto_region 2 with fail
    clear d0 d1 f0 f1
    generalize ((w1.setCell ⟨z, 0, none⟩ (.bool false)).setCell ⟨z, 1, none⟩ (.slice (some ⟨g, 0, none⟩) 1 c1)) = w3 at *
    have x0 := HD5.out.cell 0
    have x1 := HD5.out.cell 1
    simp only [List.getElem?_toArray, List.getElem?_cons_succ, List.getElem?_cons_zero] at x0 x1
    have HT := Lib.hid (tenth3_any g c1 w3 cur BG2 hc0)
    have HLT := Lib.hid BG2.lt
    clear BG2
    go_wp2_with fail
    go_loopg [3, 4] 2 (fun q o b wr => (q = 2 ∧ o = .slice none 0 0 ∧ b = .slice (some ⟨g, 0, none⟩) 1 c1 ∧ wr = w3) ∨ (q = 1 ∧ ∃ a7 c7 a8 c8, o = .slice a7 1 c7 ∧ b = .slice a8 0 c8 ∧ Hid (wr.ownsRow w3.heap.size 5 1 (.slice a7 1 c7) 1 (Lib.byteCells [51])) ∧ Hid (Fr (fun k => k = g) w3 wr)))
    case atStart => exact .inl ⟨rfl, rfl, rfl, rfl⟩
    case round =>
      rcases hrel with ⟨hg, rfl, rfl, rfl⟩ | ⟨hg, a7, c7, a8, c8, rfl, rfl, HO, HF⟩
      · have HG := Lib.hid hg
        clear hg
        go_wp2_with fail
        refine HT.out.mono ?_
        rintro e w4 ⟨⟨rfl, B4⟩, F4⟩
        have hw4 := F4.size
        have FA : Fr (fun _ => False) w4 (w4.alloc (.cells #[.int .u8 51] 5)) := (Fr.refl w4).alloc _
        have hsrc : Bytes (w4.alloc (.cells #[.int .u8 51] 5)) (.slice (some ⟨w4.heap.size, 0, none⟩) 1 1) [51] := by
          refine ⟨_, 1, rfl, Nat.le_refl _, by unfold maxLen; omega, fun _ => ⟨w4.heap.size, 0, rfl, fun i u hu => ?_⟩⟩
          have := (Blk.new w4 5 #[.int .u8 51]).cell (0 + i)
          rw [this]
          simpa [Lib.byteCells] using hu
        obtain ⟨v5, w5, hrun, hown, F5, hat⟩ := append_bytes (w := w4.alloc (.cells #[.int .u8 51] 5)) (base := w4.heap.size) (n := 0) (v := .slice none 0 0) (xs := []) ⟨rfl, .inl ⟨rfl, rfl⟩⟩ _ 1 1 [51] hsrc (by decide) (by rw [World.size_alloc]; omega)
        obtain ⟨a7, m7, c7, rfl, hm7⟩ := own_shape hown
        have F45 : Fr (fun _ => False) w4 w5 := FA.trans' F5 (fun i hi e => by simp [Value.ownBlock] at e)
        have B5 := B4.fr F45 (fun h => h)
        have hb0 : Bytes w5 (.slice (some ⟨g, 0, none⟩) 1 c1) [0] := by
          refine ⟨_, c1, rfl, by have := HNC.out; exact this, hcm, fun _ => ⟨g, 0, rfl, fun i u hu => ?_⟩⟩
          have := B5.cell (0 + i)
          rw [this]
          have hi : i = 0 := by
            have := (List.getElem?_eq_some_iff.1 hu).1
            simp [Lib.byteCells] at this
            omega
          subst hi
          have hcl : 0 < cur.size := (Array.getElem?_eq_some_iff.1 hc0).1
          simp [Lib.byteCells] at hu
          simp [Array.getElem?_setIfInBounds, hcl, hu]
        have HTR := Lib.hid (wTrim_any _ [0] w5 hb0)
        have hm71 : m7 = 1 := by omega
        subst hm71
        have HRUN := Lib.hid hrun
        have HOW := Lib.hid (show w5.ownsRow wr.heap.size 5 1 (.slice a7 1 c7) 1 (Lib.byteCells [51]) from by
          refine ⟨hown.1, ?_⟩
          rcases hown.2 with q | ⟨g2, cap2, cur2, q1, q2, q3⟩
          · exact .inl q
          · exact .inr ⟨g2, cap2, cur2, q1, by omega, q3⟩)
        have HF5 := Lib.hid (F4.trans (F45.mono (fun _ _ h => h.elim)))
        clear B4 F4 FA hsrc hrun hown F5 hat F45 B5 hb0 HT x0 x1 hw4
        go_wp2_with (at_builtin; refine wpList_append_run (by rfl) (.tmp 17) (.tmp 21) 38 (by rfl) _ w5 (by exact HRUN.out) ?_)
        refine HTR.out.mono ?_
        rintro e w6 ⟨⟨a8, c8, rfl, -⟩, F6⟩
        have HF6 := Lib.hid (HF5.out.trans (F6.mono (fun _ _ h => h.elim)))
        have HOW6 := Lib.hid (ownsRow_fr HOW.out F6 (fun _ _ h => h))
        clear F6
        go_wp2_with fail
        go_roundg 1
        case measure => rw [HG.out]; decide
        case rel => exact .inr ⟨rfl, a7, c7, a8, c8, rfl, rfl, HOW6, HF6⟩
      · have HD9 := HD5.out.fr HF.out (by have := HGZ.out; omega)
        have y0 := HD9.cell 0
        simp only [List.getElem?_toArray, List.getElem?_cons_succ, List.getElem?_cons_zero] at y0
        have HR := Lib.hid (rev_ok wr w3.heap.size _ 1 [51] HO.out (by decide))
        have HFW := Lib.hid (HF2.out.trans' HF.out (fun i hi e => by have := HGZ.out; have := HZ.out; omega))
        have HOL := Lib.hid (fun k (hk : (Value.slice a7 1 c7).ownBlock = some k) => (HO.out.lt k hk).1)
        clear hg HD9 x0 x1 HT
        go_wp2_with fail
        refine HR.out.mono ?_
        rintro e w9 ⟨rfl, ho9, F9⟩
        have hst := str_of (Vals.of_own ho9).1
        have hlen : (Lib.byteCells ([51] : List UInt8).reverse).length = 1 := rfl
        have HF9 := Lib.hid (HFW.out.trans' F9 (fun i hi e => by have := HOL.out i e; have := HF2.out.size; omega))
        clear ho9 F9
        go_wp2_with fail
        go_ret
        exact ⟨rfl, HF9.out⟩
end Go.Proofs.YtehlipgmkinfbaaGreatDoor

namespace Go.Q
open Go Go.RowKit
def knN : List (List Part) := knA.take 1
theorem knN_of : nameOfS [knT1] = .ok knN := by kernel_rfl
theorem knN_ok : nameOk knN = true := knA1_ok
theorem knN_fit : fitN knN := ⟨by decide, fun r hr => ⟨kn_few r (List.mem_of_mem_take hr), by
  simp only [knN, knA, List.take_succ_cons, List.take_zero, List.mem_singleton] at hr
  subst hr
  exact ⟨by decide, fun p hp => by rw [List.mem_singleton.1 hp]; decide⟩⟩⟩
theorem kn_fitW (k : UInt8) : fitW (kRow knN k) := ⟨knN_fit, by show (1 : Nat) ≤ _; decide⟩
theorem kn_fitR (k : UInt8) : fitR (kRow knN k) := ⟨knN_fit, knN_ok, by show (1 : Nat) ≤ _; decide⟩
theorem rows_one {W : World} {g : Nat} {t : TypeId} {us : List Value} {r : RowP} (B : Blk W g t us.toArray) (h1 : us.length = 6) (hr : RRow W us r) : Go.Q.Rows W (.slice (some ⟨g, 0, none⟩) 1 1) [r] :=
  ⟨_, 1, rfl, Nat.le_refl _, by unfold maxLen; omega, fun _ => ⟨g, 0, rfl, fun i x hi => by
    have h0 : i = 0 := by
      have := (List.getElem?_eq_some_iff.1 hi).1
      simp at this
      omega
    subst h0
    simp only [List.getElem?_cons_zero, Option.some.injEq] at hi
    subst hi
    exact ⟨us, h1, fun j u hu => by have := B.cell (0 + 6 * 0 + j); rw [this, List.getElem?_toArray]; simpa using hu, hr⟩⟩⟩
theorem rows_two {W : World} {g : Nat} {t : TypeId} {us vs : List Value} {r s : RowP} (B : Blk W g t (us ++ vs).toArray) (h1 : us.length = 6) (h2 : vs.length = 6) (hr : RRow W us r) (hs : RRow W vs s) : Go.Q.Rows W (.slice (some ⟨g, 0, none⟩) 2 2) [r, s] :=
  ⟨_, 2, rfl, Nat.le_refl _, by unfold maxLen; omega, fun _ => ⟨g, 0, rfl, fun i x hi => by
    have h0 : i = 0 ∨ i = 1 := by
      have := (List.getElem?_eq_some_iff.1 hi).1
      simp at this
      omega
    rcases h0 with rfl | rfl
    · simp only [List.getElem?_cons_zero, Option.some.injEq] at hi
      subst hi
      exact ⟨us, h1, fun j u hu => by
        have hj := (List.getElem?_eq_some_iff.1 hu).1
        have := B.cell (0 + 6 * 0 + j)
        rw [this, List.getElem?_toArray, List.getElem?_append_left (by omega)]
        simpa using hu, hr⟩
    · simp only [List.getElem?_cons_succ, List.getElem?_cons_zero, Option.some.injEq] at hi
      subst hi
      exact ⟨vs, h2, fun j u hu => by
        have := B.cell (0 + 6 * 1 + j)
        rw [this, List.getElem?_toArray, List.getElem?_append_right (by omega), show 0 + 6 * 1 + j - us.length = j by omega]
        exact hu, hs⟩⟩⟩
end Go.Q
namespace Go.Proofs.YtehlipgmkinfbaaGreatDoor
open Go Go.RowKit Go.Q
set_option linter.unusedSimpArgs false
set_option maxRecDepth 100000 in
set_option maxHeartbeats 4000000 in
theorem kn1_any (k : Nat) (hk : k = 3 ∨ k = 5) (bn : Nat) (va : Option Addr) (vc : Nat) (n : List (List Part)) (w : World) (hc : w.cell? ⟨bn, 0, none⟩ = some (.slice va n.length vc)) :
    Calls Tryz.prog 42 #[.int .i64 k, pt bn] w fun e w' => (∃ a c, e = .returned (.agg #[.slice va n.length vc, .bool false, .slice a 1 c, .int .i64 0, .int .i64 0, .pointer none]) ∧ Kept (fun W => Bytes W (.slice a 1 c) [UInt8.ofNat k]) (fun j => j < w.heap.size) w') ∧ Fr (fun _ => False) w w' := by
  obtain ⟨z, hz⟩ : ∃ z, z = w.heap.size := ⟨_, rfl⟩
  have HZ := Lib.hid hz
  have F0 : Fr (fun _ => False) w (w.alloc (.cells #[.slice none 0 0, .bool false, .slice none 0 0, .int .i64 0, .int .i64 0, .pointer none] 43)) := (Fr.refl w).alloc _
  have D := Blk.new w 43 #[.slice none 0 0, .bool false, .slice none 0 0, .int .i64 0, .int .i64 0, .pointer none]
  rw [← hz] at D
  have hs0 : (w.alloc (.cells #[.slice none 0 0, .bool false, .slice none 0 0, .int .i64 0, .int .i64 0, .pointer none] 43)).heap.size = z + 1 := by rw [World.size_alloc, hz]
  have hlow : bn < w.heap.size := World.block_lt_of_cell? w _ hc
  have HC := Lib.hid (F0.cell hc (fun h => h))
  have HLOW := Lib.hid hlow
  have HS0 := Lib.hid hs0
  have HF0 := Lib.hid F0
  have HOF := Lib.hid (fun W => wOf_any k hk W)
  clear hz F0 hs0 hc hlow
  go_enter Tryz.func42, Tryz.ntmps42
  go_upto_region 1 with fail
  rw [← HZ.out]
  generalize (w.alloc (.cells #[.slice none 0 0, .bool false, .slice none 0 0, .int .i64 0, .int .i64 0, .pointer none] 43)) = w0 at *
  have cb := HC.out
  have G : Fr (fun _ => False) w0 w0.drew := (Fr.refl w0).drew
  refine wp_region_N 4 (S := fun w' => w'.cell? ⟨bn, 0, none⟩ = some (.slice va n.length vc)) (by kernel_rfl) ?_ (fun hHeld => ?_)
  · exact G.cell cb (fun h => h)
  refine wpAnyN_take (i := 0) (oi := _) (v := ?_) rfl (by kernel_rfl) (by kernel_rfl) (by kernel_rfl) (by kernel_rfl) (fun _ _ _ h => h) (Or.inl ⟨by rfl, ?_⟩) (by assumption) ?_
  rotate_left
  · (intro W hSw; (try dsimp only at hSw); go_simp; try with_reducible rfl)
  (try simp only [Act.put, List.setIfInBounds_toArray, List.set_cons_zero, List.set_cons_succ])
  refine wpAnyN_take (i := 1) (oi := _) (v := ?_) rfl (by kernel_rfl) (by kernel_rfl) (by kernel_rfl) (by kernel_rfl) (fun _ _ _ h => h) (Or.inl ⟨by rfl, ?_⟩) (by assumption) ?_
  rotate_left
  · (intro W hSw; (try dsimp only at hSw); go_simp; try with_reducible rfl)
  (try simp only [Act.put, List.setIfInBounds_toArray, List.set_cons_zero, List.set_cons_succ])
  refine wpAnyN_step (i := 2) (by kernel_rfl) (o := _) rfl (fun KK hKK => ?_)
  go_simp
  (go_at_call 43; (with_reducible refine (HOF.out _).mono ?_); rintro e w' ⟨⟨a, c, rfl, hq⟩, F⟩; have hsz := G.size; replace G := G.trans F; clear F; go_wp2_with fail)
  refine hKK.out _ _ ?_ (fun hHeld => ?_)
  · exact G.cell cb (fun h => h)
  clear hKK KK
  (try simp only [Act.put, List.setIfInBounds_toArray, List.set_cons_zero, List.set_cons_succ])
  refine wpAnyN_take (i := 3) (oi := _) (v := ?_) rfl (by kernel_rfl) (by kernel_rfl) (by kernel_rfl) (by kernel_rfl) (fun _ _ _ h => h) (Or.inl ⟨by rfl, ?_⟩) (by assumption) ?_
  rotate_left
  · (intro W hSw; (try dsimp only at hSw); go_simp; try with_reducible rfl)
  (try simp only [Act.put, List.setIfInBounds_toArray, List.set_cons_zero, List.set_cons_succ])
  have D1 := D.fr G (fun h => h)
  have P := putL_all (Z := [.slice none 0 0, .bool false, .slice none 0 0, .int .i64 0, .int .i64 0, .pointer none]) D1 (l := [.slice va n.length vc, .bool false, .slice a 1 c, .int .i64 0, .int .i64 0, .pointer none]) rfl
  have d0 := D1.cell 0
  have d1 := D1.cell 1
  have d2 := D1.cell 2
  have d3 := D1.cell 3
  have d4 := D1.cell 4
  have d5 := D1.cell 5
  have f0 := D1.frozen 0
  have f1 := D1.frozen 1
  have f2 := D1.frozen 2
  have f3 := D1.frozen 3
  have f4 := D1.frozen 4
  have f5 := D1.frozen 5
  simp only [List.getElem?_toArray, List.getElem?_cons_succ, List.getElem?_cons_zero] at d0 d1 d2 d3 d4 d5
  have HK := Lib.hid (hq.step (K' := fun j => j < w.heap.size) P.2 (fun j hj e => by have e2 : j = z := e; have hd : w0.drew.heap.size = w0.heap.size := rfl; have := HS0.out; omega) (fun j hj => by have hd : w0.drew.heap.size = w0.heap.size := rfl; have := HS0.out; have := HZ.out; exact .inl (by omega)))
  have HPF := Lib.hid ((HF0.out.trans G).trans' P.2 (fun i hi e => by have e2 : i = z := e; have := HZ.out; omega))
  have HPB := Lib.hid P.1
  simp only [putL] at HPF HPB HK
  clear P D D1 hq
  refine wpAnyN_last (i := 4) (by kernel_rfl) (by decide) (o := _) rfl (fun KK hKK => ?_)
  go_simp
  skip
  refine hKK.out _ _ ?_
  clear hKK KK
  (try simp only [Act.put, List.setIfInBounds_toArray, List.set_cons_zero, List.set_cons_succ])
  refine wpAnyN_done (by kernel_rfl) ?_ _
  clear d0 d1 d2 d3 d4 d5 f0 f1 f2 f3 f4 f5
  have u0 := HPB.out.cell 0
  have u1 := HPB.out.cell 1
  have u2 := HPB.out.cell 2
  have u3 := HPB.out.cell 3
  have u4 := HPB.out.cell 4
  have u5 := HPB.out.cell 5
  simp only [List.getElem?_toArray, List.getElem?_cons_succ, List.getElem?_cons_zero] at u0 u1 u2 u3 u4 u5
  go_wp2_with fail
  exact bodyPost_ret (v := .agg #[.slice va n.length vc, .bool false, .slice a 1 c, .int .i64 0, .int .i64 0, .pointer none]) (by simp [results, Tryz.results42, go_sem, u0, u1, u2, u3, u4, u5]) rfl ⟨⟨a, c, rfl, HK.out⟩, HPF.out⟩
theorem kn_row {W : World} {va a : Option Addr} {vc c : Nat} (k : UInt8) (h : NameAt W (.slice va knN.length vc) knN) (hb : Bytes W (.slice a 1 c) [k]) : RRow W [.slice va knN.length vc, .bool false, .slice a 1 c, .int .i64 0, .int .i64 0, .pointer none] (kRow knN k) := ⟨_, _, .pointer none, rfl, h, hb, rfl⟩
set_option maxRecDepth 100000 in
set_option maxHeartbeats 8000000 in
theorem ixKnown_any (w : World) (hE : Env w) :
    Calls Tryz.prog 12 #[] w fun e w' => e = .returned (.bool true) ∧ Fr (fun _ => False) w w' := by
  have HE := Lib.hid hE
  have F0 : Fr (fun _ => False) w (w.alloc (.cells #[str knT1] 9)) := (Fr.refl w).alloc _
  have hst : Strs (w.alloc (.cells #[str knT1] 9)) (.slice (some ⟨w.heap.size, 0, none⟩) 1 1) [knT1] := Vals.of_block (Blk.new w 9 #[str knT1]) (by unfold maxLen; simp)
  have HNO := Lib.hid (nameOf_any _ [knT1] _ hst (hE.old F0) (fun k hk => by rw [List.mem_singleton.1 hk]; decide) (by simp))
  have HF0 := Lib.hid F0
  clear hE F0 hst
  go_enter Tryz.func12, Tryz.ntmps12
  go_wp2_with fail
  refine HNO.out.mono ?_
  rintro e w1 ⟨hout, F1⟩
  unfold NameOfOut at hout
  rw [knN_of] at hout
  obtain ⟨vA, rfl, hA⟩ := hout
  have hAt := hA.at
  obtain ⟨va, vc, rfl⟩ := hA.shape
  have HA := Lib.hid hAt
  have HF1 := Lib.hid (HF0.out.trans F1)
  obtain ⟨bn, hbn⟩ : ∃ bn, bn = w1.heap.size := ⟨_, rfl⟩
  have HBN := Lib.hid hbn
  have B2 := Blk.new w1 37 #[.slice va knN.length vc]
  rw [← hbn] at B2
  have HB2 := Lib.hid B2
  have F2 : Fr (fun _ => False) w1 (w1.alloc (.cells #[.slice va knN.length vc] 37)) := (Fr.refl w1).alloc _
  have HF2 := Lib.hid F2
  clear hA hAt F1 hbn B2 F2 HNO
  go_upto_region 2 with fail
  rw [← HBN.out]
  generalize (w1.alloc (.cells #[.slice va knN.length vc] 37)) = w2 at *
  have HC := Lib.hid (fun (k : Nat) (hk : k = 3 ∨ k = 5) W (F : Fr (fun _ => False) w2 W) => kn1_any k hk bn va vc knN W (F.cell (HB2.out.cell 0) (fun h => h)))
  have HN := Lib.hid (fun W (F : Fr (fun _ => False) w2 W) => HA.out.old (HF2.out.trans F))
  have HEE := Lib.hid (fun W (F : Fr (fun _ => False) w2 W) => HE.out.old ((HF1.out.trans HF2.out).trans F))
  clear HA HB2 HE
  go_wp2_with fail
  refine (HC.out 5 (by decide) w2 (Fr.refl w2)).mono ?_
  rintro e w3 ⟨⟨a1, c1, rfl, hq1⟩, F1⟩
  have HQ1 := Lib.hid hq1
  have HG1 := Lib.hid (((Fr.refl w2)).trans F1)
  have HR1 := Lib.hid F1
  clear hq1 F1
  go_wp2_with fail
  refine (HC.out 3 (by decide) w3 HG1.out).mono ?_
  rintro e w4 ⟨⟨a2, c2, rfl, hq2⟩, F2⟩
  have FA : Fr (fun _ => False) w4 (w4.alloc (.cells #[.slice va knN.length vc, .bool false, .slice a1 1 c1, .int .i64 0, .int .i64 0, .pointer none, .slice va knN.length vc, .bool false, .slice a2 1 c2, .int .i64 0, .int .i64 0, .pointer none] 43)) := (Fr.refl w4).alloc _
  have HG2 := Lib.hid ((HG1.out.trans F2).trans FA)
  have HR2 := Lib.hid ((HR1.out.trans F2).trans FA)
  have HRS : Hid (Go.Q.Rows (w4.alloc (.cells #[.slice va knN.length vc, .bool false, .slice a1 1 c1, .int .i64 0, .int .i64 0, .pointer none, .slice va knN.length vc, .bool false, .slice a2 1 c2, .int .i64 0, .int .i64 0, .pointer none] 43)) (.slice (some ⟨w4.heap.size, 0, none⟩) 2 2) [kRow knN 5, kRow knN 3]) := Lib.hid (rows_two (us := [.slice va knN.length vc, .bool false, .slice a1 1 c1, .int .i64 0, .int .i64 0, .pointer none]) (vs := [.slice va knN.length vc, .bool false, .slice a2 1 c2, .int .i64 0, .int .i64 0, .pointer none]) (Blk.new w4 43 #[.slice va knN.length vc, .bool false, .slice a1 1 c1, .int .i64 0, .int .i64 0, .pointer none, .slice va knN.length vc, .bool false, .slice a2 1 c2, .int .i64 0, .int .i64 0, .pointer none]) rfl rfl (kn_row 5 (HN.out _ HG2.out) ((HQ1.out.old F2).old FA).now) (kn_row 3 (HN.out _ HG2.out) (hq2.old FA).now))
  have HNW := Lib.hid (ixNew_any _ [kRow knN 5, kRow knN 3] _ HRS.out (fun r hr => by simp only [List.mem_cons, List.not_mem_nil, or_false] at hr; rcases hr with rfl | rfl <;> exact kn_fitW _) (by decide) (HEE.out _ HG2.out))
  clear hq2 F2 FA HQ1 HRS
  go_wp2_with fail
  refine HNW.out.mono ?_
  rintro e w6 ⟨hout, F3⟩
  unfold NewOut at hout
  rw [kn_two knN_ok] at hout
  obtain ⟨bA, rfl, hix⟩ := hout
  have HIA := Lib.hid hix
  have HF6 := Lib.hid (HG2.out.trans F3)
  clear hix F3 HG1 HG2 HNW HR1 HR2
  go_wp2_with fail
  refine (HC.out 5 (by decide) w6 HF6.out).mono ?_
  rintro e w7 ⟨⟨a1, c1, rfl, hq1⟩, F1⟩
  have FA : Fr (fun _ => False) w7 (w7.alloc (.cells #[.slice va knN.length vc, .bool false, .slice a1 1 c1, .int .i64 0, .int .i64 0, .pointer none] 43)) := (Fr.refl w7).alloc _
  have HG2 := Lib.hid ((HF6.out.trans F1).trans FA)
  have HG67 := Lib.hid (F1.trans FA)
  have HRS : Hid (Go.Q.Rows (w7.alloc (.cells #[.slice va knN.length vc, .bool false, .slice a1 1 c1, .int .i64 0, .int .i64 0, .pointer none] 43)) (.slice (some ⟨w7.heap.size, 0, none⟩) 1 1) [kRow knN 5]) := Lib.hid (rows_one (us := [.slice va knN.length vc, .bool false, .slice a1 1 c1, .int .i64 0, .int .i64 0, .pointer none]) (Blk.new w7 43 #[.slice va knN.length vc, .bool false, .slice a1 1 c1, .int .i64 0, .int .i64 0, .pointer none]) rfl (kn_row 5 (HN.out _ HG2.out) (hq1.old FA).now))
  have HNW := Lib.hid (ixNew_any _ [kRow knN 5] _ HRS.out (fun r hr => by rw [List.mem_singleton.1 hr]; exact kn_fitW _) (by decide) (HEE.out _ HG2.out))
  clear hq1 F1 FA HRS
  go_wp2_with fail
  refine HNW.out.mono ?_
  rintro e w8 ⟨hout, F3⟩
  unfold NewOut at hout
  rw [kn_one knN_ok] at hout
  obtain ⟨bB, rfl, hix⟩ := hout
  have HIB := Lib.hid hix
  have HF8 := Lib.hid (HG2.out.trans F3)
  replace HIA := Lib.hid (HIA.out.old (HG67.out.trans F3))
  clear hix F3 HG2 HNW HG67
  go_wp2_with fail
  refine (HC.out 5 (by decide) w8 HF8.out).mono ?_
  rintro e w9 ⟨⟨a1, c1, rfl, hq1⟩, F1⟩
  have HQ1 := Lib.hid hq1
  have HG1 := Lib.hid ((HF8.out).trans F1)
  have HR1 := Lib.hid F1
  clear hq1 F1
  go_wp2_with fail
  refine (HC.out 5 (by decide) w9 HG1.out).mono ?_
  rintro e w10 ⟨⟨a2, c2, rfl, hq2⟩, F2⟩
  have FA : Fr (fun _ => False) w10 (w10.alloc (.cells #[.slice va knN.length vc, .bool false, .slice a1 1 c1, .int .i64 0, .int .i64 0, .pointer none, .slice va knN.length vc, .bool false, .slice a2 1 c2, .int .i64 0, .int .i64 0, .pointer none] 43)) := (Fr.refl w10).alloc _
  have HG2 := Lib.hid ((HG1.out.trans F2).trans FA)
  have HR2 := Lib.hid ((HR1.out.trans F2).trans FA)
  have HRS : Hid (Go.Q.Rows (w10.alloc (.cells #[.slice va knN.length vc, .bool false, .slice a1 1 c1, .int .i64 0, .int .i64 0, .pointer none, .slice va knN.length vc, .bool false, .slice a2 1 c2, .int .i64 0, .int .i64 0, .pointer none] 43)) (.slice (some ⟨w10.heap.size, 0, none⟩) 2 2) [kRow knN 5, kRow knN 5]) := Lib.hid (rows_two (us := [.slice va knN.length vc, .bool false, .slice a1 1 c1, .int .i64 0, .int .i64 0, .pointer none]) (vs := [.slice va knN.length vc, .bool false, .slice a2 1 c2, .int .i64 0, .int .i64 0, .pointer none]) (Blk.new w10 43 #[.slice va knN.length vc, .bool false, .slice a1 1 c1, .int .i64 0, .int .i64 0, .pointer none, .slice va knN.length vc, .bool false, .slice a2 1 c2, .int .i64 0, .int .i64 0, .pointer none]) rfl rfl (kn_row 5 (HN.out _ HG2.out) ((HQ1.out.old F2).old FA).now) (kn_row 5 (HN.out _ HG2.out) (hq2.old FA).now))
  have HNW := Lib.hid (ixNew_any _ [kRow knN 5, kRow knN 5] _ HRS.out (fun r hr => by simp only [List.mem_cons, List.not_mem_nil, or_false] at hr; rcases hr with rfl | rfl <;> exact kn_fitW _) (by decide) (HEE.out _ HG2.out))
  clear hq2 F2 FA HQ1 HRS
  go_wp2_with fail
  refine HNW.out.mono ?_
  rintro e w12 ⟨hout, F3⟩
  unfold NewOut at hout
  rw [kn_twice knN_ok] at hout
  subst hout
  have HF12 := Lib.hid (HG2.out.trans F3)
  replace HIA := Lib.hid (HIA.out.old (HR2.out.trans F3))
  replace HIB := Lib.hid (HIB.out.old (HR2.out.trans F3))
  have HFA := Lib.hid (show ∀ r ∈ [kRow knN 3, kRow knN 5], fitR r from fun r hr => by simp only [List.mem_cons, List.not_mem_nil, or_false] at hr; rcases hr with rfl | rfl <;> exact kn_fitR _)
  have HFB := Lib.hid (show ∀ r ∈ [kRow knN 5], fitR r from fun r hr => by rw [List.mem_singleton.1 hr]; exact kn_fitR _)
  have HFD := Lib.hid (show ∀ r ∈ [goneR (kRow knN 3)], fitR r from fun r hr => by rw [List.mem_singleton.1 hr]; exact kn_fitR 3)
  clear F3 HG1 HG2 HR1 HR2 HNW
  go_wp2_with fail
  refine (ixAll_any _ _ w12 HIA.out HFA.out (by decide)).mono ?_
  rintro e w13 ⟨⟨aA, cA, rfl, hrA⟩, F13⟩
  have HRA := Lib.hid hrA
  have HDE := Lib.hid (ixDelta_any _ _ _ _ w13 (HIA.out.old F13) (HIB.out.old F13) HFA.out HFB.out (by decide))
  have HF13 := Lib.hid (HF12.out.trans F13)
  clear hrA F13 HIA HIB
  go_wp2_with fail
  refine HDE.out.mono ?_
  rintro e w14 ⟨⟨bD, rfl, hix⟩, F14⟩
  rw [kn_nrow] at hix
  have HID := Lib.hid (ixAll_any _ _ w14 hix HFD.out (by decide))
  have HF14 := Lib.hid (HF13.out.trans F14)
  replace HRA := Lib.hid (HRA.out.old F14)
  clear hix F14 HDE
  go_wp2_with fail
  refine HID.out.mono ?_
  rintro e w15 ⟨⟨aD, cD, rfl, hrD⟩, F15⟩
  have hrA := HRA.out.old F15
  have HF15 := Lib.hid (HF14.out.trans F15)
  have e3 : [kRow knN 3, kRow knN 5].map nrow = [kRow knN 3, kRow knN 5] := by rw [List.map_cons, List.map_cons, List.map_nil, nrow_k _ _ rfl, nrow_k _ _ rfl]
  have e4 : [goneR (kRow knN 3)].map nrow = [goneR (kRow knN 3)] := by simp [nrow, goneR, kRow, madeS, trimS]
  rw [e3] at hrA
  rw [e4] at hrD
  obtain ⟨b1, o1, cs, rfl, -, -, hR1, hc1⟩ := LAt.get hrA (i := 0) rfl
  obtain ⟨b2, o2, ds, rfl, -, -, hR2, hc2⟩ := LAt.get hrD (i := 0) rfl
  obtain ⟨p1, p2, p3, p4, p5, rfl, -, hb1, -⟩ := hR1.form
  obtain ⟨r1, r2, r3, r4, r5, rfl, -, hb2, -⟩ := hR2.form
  have x1 : w15.cell? ⟨b1, o1 + 1, none⟩ = some (.bool false) := by have := hc1 1 _ rfl; rw [show o1 + 0 * 6 + 1 = o1 + 1 by omega] at this; exact this
  have x2 : w15.cell? ⟨b1, o1 + 2, none⟩ = some (.slice p3 1 p4) := by have := hc1 2 _ rfl; rw [show o1 + 0 * 6 + 2 = o1 + 2 by omega] at this; exact this
  have y1 : w15.cell? ⟨b2, o2 + 1, none⟩ = some (.bool false) := by have := hc2 1 _ rfl; rw [show o2 + 0 * 6 + 1 = o2 + 1 by omega] at this; exact this
  have y2 : w15.cell? ⟨b2, o2 + 2, none⟩ = some (.slice r3 1 r4) := by have := hc2 2 _ rfl; rw [show o2 + 0 * 6 + 2 = o2 + 2 by omega] at this; exact this
  have y4 : w15.cell? ⟨b2, o2 + 4, none⟩ = some (.int .i64 8) := by have := hc2 4 _ rfl; rw [show o2 + 0 * 6 + 4 = o2 + 4 by omega] at this; exact this
  have HT1 := Lib.hid (wText3_any p3 p4 w15 hb1)
  have HT2 := Lib.hid (fun W (F : Fr (fun _ => False) w15 W) => wText3_any r3 r4 W (Vals.old hb2 F))
  have HY := Lib.hid (fun W (F : Fr (fun _ => False) w15 W) => And.intro (F.cell y1 (fun h => h)) (And.intro (F.cell y2 (fun h => h)) (F.cell y4 (fun h => h))))
  clear hrA hrD hR1 hR2 hc1 hc2 hb1 hb2 F15 e3 e4 y1 y2 y4 HRA HID
  simp only [List.length_cons, List.length_nil, Nat.zero_add, Nat.reduceAdd] at *
  go_wp2_with fail
  refine HT1.out.mono ?_
  rintro e w16 ⟨rfl, F16⟩
  obtain ⟨y1, y2, y4⟩ := HY.out w16 F16
  have HT3 := Lib.hid (HT2.out w16 F16)
  have HF16 := Lib.hid (HF15.out.trans F16)
  clear F16 x1 x2 HT1 HT2
  go_wp2_with fail
  refine HT3.out.mono ?_
  rintro e w17 ⟨rfl, F17⟩
  have HF17 := Lib.hid (HF1.out.trans (HF2.out.trans (HF16.out.trans F17)))
  clear F17 y1 y2 y4 HT3
  go_wp2_with fail
  go_ret
  exact ⟨rfl, HF17.out⟩
end Go.Proofs.YtehlipgmkinfbaaGreatDoor

namespace Go.Proofs.YtehlipgmkinfbaaGreatDoor
open Go Go.RowKit Go.Q
set_option linter.unusedSimpArgs false
theorem search0_any (f : Value) (w : World) :
    Calls Tryz.prog 56 #[.int .i64 0, f] w fun e w' => e = .returned (.int .i64 0) ∧ Fr (fun _ => False) w w' := by
  go_enter Tryz.func56, Tryz.ntmps56
  go_wp2_with fail
  go_loopg [5, 6] 1 (fun g x y wr => g = 1 ∧ x = .int .i64 0 ∧ y = .int .i64 0 ∧ wr = w)
  case atStart => exact ⟨rfl, rfl, rfl, rfl⟩
  case round =>
    obtain ⟨hg, rfl, rfl, rfl⟩ := hrel
    clear hg
    go_wp2_with fail
    go_ret
    exact ⟨rfl, Fr.refl _⟩
set_option maxRecDepth 100000 in
set_option maxHeartbeats 4000000 in
theorem placeNil_any (kk : List UInt8) (b : Bool) (a : Option Addr) (n c : Nat) (w : World) :
    Calls Tryz.prog 55 #[.pointer none, .agg #[str kk, .slice none 0 0, .bool b, .slice a n c, .int .i64 0, .int .i64 0, .pointer none]] w fun e w' => e = .returned (.int .i64 0) ∧ Fr (fun _ => False) w w' := by
  have HS := Lib.hid (fun W => slotsX_any (.pointer none) none 0 [] W (.inl ⟨rfl, rfl, rfl, rfl⟩))
  have HQ := Lib.hid (fun f W => search0_any f W)
  have HF := Lib.hid ((((Fr.refl w).alloc (.cells #[str kk, .slice none 0 0, .bool b, .slice a n c, .int .i64 0, .int .i64 0, .pointer none] 78)).alloc (.cells #[.slice none 0 0] 71)) : Fr (fun _ => False) w _)
  go_enter Tryz.func55, Tryz.ntmps55
  go_wp2_with fail
  refine (HS.out _).mono ?_
  rintro e w1 ⟨rfl, rfl⟩
  go_wp2_with fail
  refine (HQ.out _ _).mono ?_
  rintro e w2 ⟨rfl, F2⟩
  go_wp2_with fail
  go_ret
  exact ⟨rfl, HF.out.trans F2⟩
set_option maxRecDepth 100000 in
set_option maxHeartbeats 4000000 in
theorem sought_ok (v : Value) (nm : List (List Part)) (b : Bool) (a : Option Addr) (n c : Nat) (w : World) (h : NameAt w v nm) (hf : ∀ r ∈ nm, fewB r) (hok : nameOk nm = true) (hE : Env w) :
    Calls Tryz.prog 54 #[v, .agg #[.bool b, .slice a n c]] w fun e w' => e = .returned (.tuple #[.agg #[str (nameKeyS nm), .slice none 0 0, .bool b, .slice a n c, .int .i64 0, .int .i64 0, .pointer none], .bool true]) ∧ Fr (fun _ => False) w w' := by
  obtain ⟨kk, hkk⟩ : ∃ kk, kk = nameKeyS nm := ⟨_, rfl⟩
  rw [← hkk]
  obtain ⟨av, cv, rfl⟩ := NameAt.shape h
  obtain ⟨z, hz⟩ : ∃ z, z = w.heap.size := ⟨_, rfl⟩
  have HZ := Lib.hid hz
  have F0 : Fr (fun _ => False) w ((w.alloc (.cells #[.bool b, .slice a n c] 40)).alloc (.cells #[.string ⟨#[]⟩, .slice none 0 0, .bool false, .slice none 0 0, .int .i64 0, .int .i64 0, .pointer none] 78)) := ((Fr.refl w).alloc _).alloc _
  have BN := (Blk.new w 40 #[.bool b, .slice a n c]).alloc (.cells #[.string ⟨#[]⟩, .slice none 0 0, .bool false, .slice none 0 0, .int .i64 0, .int .i64 0, .pointer none] 78)
  have BR := Blk.new (w.alloc (.cells #[.bool b, .slice a n c] 40)) 78 #[.string ⟨#[]⟩, .slice none 0 0, .bool false, .slice none 0 0, .int .i64 0, .int .i64 0, .pointer none]
  rw [World.size_alloc, ← hz] at BR
  rw [← hz] at BN
  have HK := Lib.hid (nameKey_any _ nm _ (h.old F0) hf hok (hE.old F0))
  rw [← hkk] at HK
  have HF := Lib.hid F0
  clear h hf hok hE hkk hz F0
  go_enter Tryz.func54, Tryz.ntmps54
  go_upto_region 1 with fail
  rw [← HZ.out]
  generalize ((w.alloc (.cells #[.bool b, .slice a n c] 40)).alloc (.cells #[.string ⟨#[]⟩, .slice none 0 0, .bool false, .slice none 0 0, .int .i64 0, .int .i64 0, .pointer none] 78)) = w0 at *
  go_wp2_with fail
  refine HK.out.mono ?_
  rintro e w1 ⟨rfl, F1⟩
  have BN1 := BN.fr F1 (fun h => h)
  have BR1 := BR.fr F1 (fun h => h)
  have P := putL_all (Z := [.string ⟨#[]⟩, .slice none 0 0, .bool false, .slice none 0 0, .int .i64 0, .int .i64 0, .pointer none]) BR1 (l := [str kk, .slice none 0 0, .bool b, .slice a n c, .int .i64 0, .int .i64 0, .pointer none]) rfl
  have HPF := Lib.hid ((HF.out.trans F1).trans' P.2 (fun i hi e => by have e2 : i = z + 1 := e; have := HZ.out; omega))
  have HPB := Lib.hid P.1
  simp only [putL] at HPF HPB
  clear P F1 BN BR HK
  have x0 := BN1.cell 0
  have x1 := BN1.cell 1
  have m0 := BR1.cell 0
  have m1 := BR1.cell 1
  have m2 := BR1.cell 2
  have m3 := BR1.cell 3
  have m4 := BR1.cell 4
  have m5 := BR1.cell 5
  have m6 := BR1.cell 6
  have f0 := BR1.frozen 0
  have f1 := BR1.frozen 1
  have f2 := BR1.frozen 2
  have f3 := BR1.frozen 3
  have f4 := BR1.frozen 4
  have f5 := BR1.frozen 5
  have f6 := BR1.frozen 6
  simp only [List.getElem?_toArray, List.getElem?_cons_succ, List.getElem?_cons_zero] at x0 x1 m0 m1 m2 m3 m4 m5 m6
  clear BN1 BR1
  go_wp2_with fail
  clear x0 x1 m0 m1 m2 m3 m4 m5 m6 f0 f1 f2 f3 f4 f5 f6
  have u0 := HPB.out.cell 0
  have u1 := HPB.out.cell 1
  have u2 := HPB.out.cell 2
  have u3 := HPB.out.cell 3
  have u4 := HPB.out.cell 4
  have u5 := HPB.out.cell 5
  have u6 := HPB.out.cell 6
  simp only [List.getElem?_toArray, List.getElem?_cons_succ, List.getElem?_cons_zero] at u0 u1 u2 u3 u4 u5 u6
  exact bodyPost_ret (v := .tuple #[.agg #[str kk, .slice none 0 0, .bool b, .slice a n c, .int .i64 0, .int .i64 0, .pointer none], .bool true]) (by simp [results, Tryz.results54, go_sem, u0, u1, u2, u3, u4, u5, u6]) rfl ⟨rfl, HPF.out⟩
theorem env_name_nil (w : World) : NameAt w (.slice none 0 0) [] := ⟨none, 0, rfl, Nat.le_refl _, by unfold maxLen; omega, fun h => absurd h (by decide)⟩
set_option maxRecDepth 100000 in
set_option maxHeartbeats 4000000 in
theorem placeTop0_any (w : World) (hE : Env w) :
    Calls Tryz.prog 29 #[.pointer none, .slice none 0 0, .agg #[.bool false, .slice none 0 0]] w fun e w' => e = .returned (.int .i64 0) ∧ Fr (fun _ => False) w w' := by
  have F0 : Fr (fun _ => False) w (w.alloc (.cells #[.bool false, .slice none 0 0] 40)) := (Fr.refl w).alloc _
  have BN := Blk.new w 40 #[.bool false, .slice none 0 0]
  have HS := Lib.hid (sought_ok _ [] false none 0 0 _ (env_name_nil _) (fun r hr => by cases hr) rfl (hE.old F0))
  obtain ⟨kk, hkk⟩ : ∃ kk, kk = nameKeyS [] := ⟨_, rfl⟩
  rw [← hkk] at HS
  have HF := Lib.hid F0
  clear hE F0 hkk
  have x0 := BN.cell 0
  have x1 := BN.cell 1
  simp only [List.getElem?_toArray, List.getElem?_cons_succ, List.getElem?_cons_zero] at x0 x1
  clear BN
  go_enter Tryz.func29, Tryz.ntmps29
  go_wp2_with fail
  refine HS.out.mono ?_
  rintro e w1 ⟨rfl, F1⟩
  have B2 := Blk.new w1 78 #[str kk, .slice none 0 0, .bool false, .slice none 0 0, .int .i64 0, .int .i64 0, .pointer none]
  have HF2 := Lib.hid ((HF.out.trans F1).alloc (.cells #[str kk, .slice none 0 0, .bool false, .slice none 0 0, .int .i64 0, .int .i64 0, .pointer none] 78))
  clear x0 x1 F1
  go_wp2_with fail
  refine (placeNil_any kk false none 0 0 _).mono ?_
  rintro e w2 ⟨rfl, F2⟩
  go_wp2_with fail
  go_ret
  exact ⟨rfl, HF2.out.trans F2⟩
set_option maxRecDepth 100000 in
set_option maxHeartbeats 4000000 in
theorem at0_any (w : World) :
    Calls Tryz.prog 16 #[.pointer none, .int .i64 0] w fun e w' => e = .returned (.tuple #[.agg #[.slice none 0 0, .bool false, .slice none 0 0, .int .i64 0, .int .i64 0, .pointer none], .int .i64 14]) ∧ Fr (fun _ => False) w w' := by
  have HS := Lib.hid (fun W => slotsX_any (.pointer none) none 0 [] W (.inl ⟨rfl, rfl, rfl, rfl⟩))
  obtain ⟨z, hz⟩ : ∃ z, z = w.heap.size := ⟨_, rfl⟩
  have HZ := Lib.hid hz
  have B := Blk.new w 43 #[.slice none 0 0, .bool false, .slice none 0 0, .int .i64 0, .int .i64 0, .pointer none]
  rw [← hz] at B
  have F0 : Fr (fun _ => False) w (w.alloc (.cells #[.slice none 0 0, .bool false, .slice none 0 0, .int .i64 0, .int .i64 0, .pointer none] 43)) := (Fr.refl w).alloc _
  clear hz
  go_enter Tryz.func16, Tryz.ntmps16
  go_upto_region 1 with fail
  rw [← HZ.out]
  generalize (w.alloc (.cells #[.slice none 0 0, .bool false, .slice none 0 0, .int .i64 0, .int .i64 0, .pointer none] 43)) = w0 at *
  have P := putL_all (Z := [.slice none 0 0, .bool false, .slice none 0 0, .int .i64 0, .int .i64 0, .pointer none]) B (l := [.slice none 0 0, .bool false, .slice none 0 0, .int .i64 0, .int .i64 0, .pointer none]) rfl
  have HPF := Lib.hid (F0.trans' P.2 (fun i hi e => by have e2 : i = z := e; have := HZ.out; omega))
  have HPB := Lib.hid P.1
  simp only [putL] at HPF HPB
  clear P F0
  have m0 := B.cell 0
  have m1 := B.cell 1
  have m2 := B.cell 2
  have m3 := B.cell 3
  have m4 := B.cell 4
  have m5 := B.cell 5
  have f0 := B.frozen 0
  have f1 := B.frozen 1
  have f2 := B.frozen 2
  have f3 := B.frozen 3
  have f4 := B.frozen 4
  have f5 := B.frozen 5
  simp only [List.getElem?_toArray, List.getElem?_cons_succ, List.getElem?_cons_zero] at m0 m1 m2 m3 m4 m5
  clear B
  go_wp2_with fail
  refine (HS.out _).mono ?_
  rintro e w1 ⟨rfl, rfl⟩
  go_wp2_with fail
  clear m0 m1 m2 m3 m4 m5 f0 f1 f2 f3 f4 f5
  have u0 := HPB.out.cell 0
  have u1 := HPB.out.cell 1
  have u2 := HPB.out.cell 2
  have u3 := HPB.out.cell 3
  have u4 := HPB.out.cell 4
  have u5 := HPB.out.cell 5
  simp only [List.getElem?_toArray, List.getElem?_cons_succ, List.getElem?_cons_zero] at u0 u1 u2 u3 u4 u5
  exact bodyPost_ret (v := .tuple #[.agg #[.slice none 0 0, .bool false, .slice none 0 0, .int .i64 0, .int .i64 0, .pointer none], .int .i64 14]) (by simp [results, Tryz.results16, go_sem, u0, u1, u2, u3, u4, u5]) rfl ⟨rfl, HPF.out⟩
set_option maxRecDepth 100000 in
set_option maxHeartbeats 4000000 in
theorem find0_any (w : World) (hE : Env w) :
    Calls Tryz.prog 27 #[.pointer none, .slice none 0 0, .agg #[.bool false, .slice none 0 0]] w fun e w' => e = .returned (.tuple #[.agg #[.slice none 0 0, .bool false, .slice none 0 0, .int .i64 0, .int .i64 0, .pointer none], .bool false]) ∧ Fr (fun _ => False) w w' := by
  obtain ⟨z, hz⟩ : ∃ z, z = w.heap.size := ⟨_, rfl⟩
  have HZ := Lib.hid hz
  have F0 : Fr (fun _ => False) w ((w.alloc (.cells #[.bool false, .slice none 0 0] 40)).alloc (.cells #[.slice none 0 0, .bool false, .slice none 0 0, .int .i64 0, .int .i64 0, .pointer none] 43)) := ((Fr.refl w).alloc _).alloc _
  have BN := (Blk.new w 40 #[.bool false, .slice none 0 0]).alloc (.cells #[.slice none 0 0, .bool false, .slice none 0 0, .int .i64 0, .int .i64 0, .pointer none] 43)
  have BR := Blk.new (w.alloc (.cells #[.bool false, .slice none 0 0] 40)) 43 #[.slice none 0 0, .bool false, .slice none 0 0, .int .i64 0, .int .i64 0, .pointer none]
  rw [World.size_alloc, ← hz] at BR
  rw [← hz] at BN
  have HS := Lib.hid (sought_ok _ [] false none 0 0 _ (env_name_nil _) (fun r hr => by cases hr) rfl (hE.old F0))
  obtain ⟨kk, hkk⟩ : ∃ kk, kk = nameKeyS [] := ⟨_, rfl⟩
  rw [← hkk] at HS
  have HF := Lib.hid F0
  have HSL := Lib.hid (fun W => slotsX_any (.pointer none) none 0 [] W (.inl ⟨rfl, rfl, rfl, rfl⟩))
  clear hE F0 hkk hz
  go_enter Tryz.func27, Tryz.ntmps27
  go_upto_region 1 with fail
  rw [← HZ.out]
  generalize ((w.alloc (.cells #[.bool false, .slice none 0 0] 40)).alloc (.cells #[.slice none 0 0, .bool false, .slice none 0 0, .int .i64 0, .int .i64 0, .pointer none] 43)) = w0 at *
  have x0 := BN.cell 0
  have x1 := BN.cell 1
  simp only [List.getElem?_toArray, List.getElem?_cons_succ, List.getElem?_cons_zero] at x0 x1
  go_wp2_with fail
  refine HS.out.mono ?_
  rintro e w1 ⟨rfl, F1⟩
  obtain ⟨y, hy⟩ : ∃ y, y = w1.heap.size := ⟨_, rfl⟩
  have HY := Lib.hid hy
  have BY := Blk.new w1 78 #[str kk, .slice none 0 0, .bool false, .slice none 0 0, .int .i64 0, .int .i64 0, .pointer none]
  rw [← hy] at BY
  have BR1 := (BR.fr F1 (fun h => h)).alloc (.cells #[str kk, .slice none 0 0, .bool false, .slice none 0 0, .int .i64 0, .int .i64 0, .pointer none] 78)
  have HF1 := Lib.hid ((HF.out.trans F1).alloc (.cells #[str kk, .slice none 0 0, .bool false, .slice none 0 0, .int .i64 0, .int .i64 0, .pointer none] 78))
  clear x0 x1 F1 hy BN BR HS
  go_upto_region 4 with fail
  rw [← HY.out]
  generalize (w1.alloc (.cells #[str kk, .slice none 0 0, .bool false, .slice none 0 0, .int .i64 0, .int .i64 0, .pointer none] 78)) = w3 at *
  replace BY := BY.drew
  replace BR1 := BR1.drew
  have G : Fr (fun _ => False) w3 w3.drew := (Fr.refl w3).drew
  go_region_held3 (fun w' => ∀ j, w'.cell? ⟨y, j, none⟩ = (#[str kk, .slice none 0 0, .bool false, .slice none 0 0, .int .i64 0, .int .i64 0, .pointer none] : Array Value)[j]?) (first | (with_reducible exact BY.cell) | fail) (first
    | (go_at_call 45; (with_reducible refine (HSL.out _).mono ?_); rintro e w' ⟨rfl, rfl⟩)
    | (go_at_call 55; (with_reducible refine (placeNil_any kk false none 0 0 _).mono ?_); rintro e w' ⟨rfl, F⟩; replace BY := BY.fr F (fun h => h); replace BR1 := BR1.fr F (fun h => h); replace G := G.trans F; clear F)
    | fail)
  all_goals
    go_upto_region 5 with fail
    go_quiet (fail)
    have BR2 : Blk (w'.drewN nq) (z + 1) 43 #[.slice none 0 0, .bool false, .slice none 0 0, .int .i64 0, .int .i64 0, .pointer none] := BR1
    have HF5 := Lib.hid (HF1.out.trans (G.drewN nq))
    clear BY BR1 G
    generalize w'.drewN nq = w5 at *
    have P := putL_all (Z := [.slice none 0 0, .bool false, .slice none 0 0, .int .i64 0, .int .i64 0, .pointer none]) BR2 (l := [.slice none 0 0, .bool false, .slice none 0 0, .int .i64 0, .int .i64 0, .pointer none]) rfl
    have HPF := Lib.hid (HF5.out.trans' P.2 (fun i hi e => by have e2 : i = z + 1 := e; have := HZ.out; omega))
    have HPB := Lib.hid P.1
    simp only [putL] at HPF HPB
    clear P
    have m0 := BR2.cell 0
    have m1 := BR2.cell 1
    have m2 := BR2.cell 2
    have m3 := BR2.cell 3
    have m4 := BR2.cell 4
    have m5 := BR2.cell 5
    have f0 := BR2.frozen 0
    have f1 := BR2.frozen 1
    have f2 := BR2.frozen 2
    have f3 := BR2.frozen 3
    have f4 := BR2.frozen 4
    have f5 := BR2.frozen 5
    simp only [List.getElem?_toArray, List.getElem?_cons_succ, List.getElem?_cons_zero] at m0 m1 m2 m3 m4 m5
    clear BR2
    go_wp2_with fail
    clear m0 m1 m2 m3 m4 m5 f0 f1 f2 f3 f4 f5
    have u0 := HPB.out.cell 0
    have u1 := HPB.out.cell 1
    have u2 := HPB.out.cell 2
    have u3 := HPB.out.cell 3
    have u4 := HPB.out.cell 4
    have u5 := HPB.out.cell 5
    simp only [List.getElem?_toArray, List.getElem?_cons_succ, List.getElem?_cons_zero] at u0 u1 u2 u3 u4 u5
    exact bodyPost_ret (v := .tuple #[.agg #[.slice none 0 0, .bool false, .slice none 0 0, .int .i64 0, .int .i64 0, .pointer none], .bool false]) (by simp [results, Tryz.results27, go_sem, u0, u1, u2, u3, u4, u5]) rfl ⟨rfl, HPF.out⟩
end Go.Proofs.YtehlipgmkinfbaaGreatDoor

namespace Go.Proofs.YtehlipgmkinfbaaGreatDoor
open Go Go.RowKit Go.Q
set_option linter.unusedSimpArgs false
def rOpenOut (v : Value) (l : List UInt8) (p : Nat) (r : Except Int (List UInt8 × Nat)) (e : Ending) : Prop :=
  match r with
  | .error x => e = .returned (.tuple #[.slice none 0 0, .int .i64 p, .int .i64 x])
  | .ok (y, k) => ∃ A c, e = .returned (.tuple #[.slice A y.length c, .int .i64 ((p + k : Nat) : Int), .int .i64 0]) ∧ ∀ W, Bytes W v l → Bytes W (.slice A y.length c) y
end Go.Proofs.YtehlipgmkinfbaaGreatDoor

namespace Go.Q
open Go Go.RowKit
end Go.Q
namespace Go.Proofs.YtehlipgmkinfbaaGreatDoor
open Go Go.RowKit Go.Q
set_option linter.unusedSimpArgs false
end Go.Proofs.YtehlipgmkinfbaaGreatDoor

namespace Go.Proofs.YtehlipgmkinfbaaGreatDoor
open Go Go.RowKit Go.Q
set_option linter.unusedSimpArgs false
end Go.Proofs.YtehlipgmkinfbaaGreatDoor

namespace Go.Proofs.YtehlipgmkinfbaaGreatDoor
open Go Go.RowKit Go.Q
set_option linter.unusedSimpArgs false
def rOidOut (w w' : World) (p : Nat) (r : Except Int (List Int × Nat)) (e : Ending) : Prop :=
  match r with
  | .error x => e = .returned (.tuple #[.slice none 0 0, .int .i64 p, .int .i64 x])
  | .ok (o, k) => ∃ a c, e = .returned (.tuple #[.slice a o.length c, .int .i64 ((p + k : Nat) : Int), .int .i64 0]) ∧ w'.ownsRow w.heap.size 3 1 (.slice a o.length c) o.length (intCells o)
end Go.Proofs.YtehlipgmkinfbaaGreatDoor

namespace Go.Proofs.YtehlipgmkinfbaaGreatDoor
open Go Go.RowKit Go.Q
set_option linter.unusedSimpArgs false
def rStepOut (K : Nat → Prop) (w' : World) (p : Nat) (r : Except Int (List Part × Nat)) (e : Ending) : Prop :=
  match r with
  | .error x => e = .returned (.tuple #[.slice none 0 0, .int .i64 p, .int .i64 x])
  | .ok (l, k) => ∃ a c, e = .returned (.tuple #[.slice a l.length c, .int .i64 ((p + k : Nat) : Int), .int .i64 0]) ∧ Kept (fun W => Attrs W (.slice a l.length c) l) K w'
end Go.Proofs.YtehlipgmkinfbaaGreatDoor
