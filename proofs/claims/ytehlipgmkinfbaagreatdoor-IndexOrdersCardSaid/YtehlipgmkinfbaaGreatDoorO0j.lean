/-
  Merged by program: XNameOf XNConcat XNTexts XR04 XR14W XR01 XR14S XNRow XNClone XGAll XNSort XNSheet XNSheet2 XNSheet3 XNSheet4 XNWrite XR14B XNbLaw XMany XGenSpec XNsLaw XNsTo XNKept XNaOf XGenAt XIxAt XStruct6 XRdI.
-/
import Derived.Test.YtehlipgmkinfbaaGreatDoorO0i
import Derived.Test.YtehlipgmkinfbaaGreatDoorO0h
import Derived.Lib.AppendZerosOnto
import Derived.Lib.SliceRun
import Derived.Lib.Walk
import Derived.Deep.RegionLaw
import Derived.Test.YtehlipgmkinfbaaGreatDoorO0e
import Derived.Laws.OwnMore
import Derived.Deep.CutRange
import Derived.Deep.Cut
import Derived.Test.YtehlipgmkinfbaaGreatDoorO0f
import Derived.Test.YtehlipgmkinfbaaGreatDoorO0a
import Derived.ChangeSame
import Derived.Deep.Strs
namespace Go.Q
open Go Go.RowKit
def NmRow (w : World) (base : Nat) (v : Value) (n : List (List Part)) : Prop :=
  ∃ us : List Value, w.ownsRow base 100 1 v n.length us ∧ us.length = n.length ∧ ∀ (i : Nat) (u : Value) (r : List Part), us[i]? = some u → n[i]? = some r → Kept (fun W => Attrs W u r) (fun k => v.ownBlock = some k) w
theorem NmRow.at {w : World} {base : Nat} {v : Value} {n : List (List Part)} (h : NmRow w base v n) : NameAt w v n := by
  obtain ⟨us, h1, h2, h3⟩ := h
  obtain ⟨a, cap, he, hc, hm, hx⟩ := (Vals.of_own h1).1
  rw [h2] at he hc hx
  refine ⟨a, cap, he, hc, hm, fun h0 => ?_⟩
  obtain ⟨b, o, rfl, hy⟩ := hx h0
  refine ⟨b, o, rfl, fun i r hr => ?_⟩
  have hi : i < us.length := by rw [h2]; exact (List.getElem?_eq_some_iff.1 hr).1
  exact ⟨us[i], hy i _ (List.getElem?_eq_getElem hi), (h3 i _ r (List.getElem?_eq_getElem hi) hr).now⟩
theorem NmRow.old {w w' : World} {base : Nat} {v : Value} {n : List (List Part)} (h : NmRow w base v n) (f : Fr (fun _ => False) w w') : NmRow w' base v n := by
  obtain ⟨us, h1, h2, h3⟩ := h
  exact ⟨us, Go.Proofs.YtehlipgmkinfbaaGreatDoor.ownsRow_fr h1 f (fun _ _ h => h), h2, fun i u r hu hr => (h3 i u r hu hr).old f⟩
theorem NmRow.kept {w : World} {base : Nat} {v : Value} {n : List (List Part)} (h : NmRow w base v n) : ∀ k, v.ownBlock = some k → base ≤ k ∧ k < w.heap.size := by
  obtain ⟨us, h1, -⟩ := h
  exact (Vals.of_own h1).2
theorem NmRow.shape {w : World} {base : Nat} {v : Value} {n : List (List Part)} (h : NmRow w base v n) : ∃ a c, v = .slice a n.length c := by
  obtain ⟨us, h1, -⟩ := h
  obtain ⟨a, m, c, rfl, rfl⟩ := own_shape h1
  exact ⟨a, c, rfl⟩
theorem Attrs.form {w : World} {v : Value} {l : List Part} (h : Attrs w v l) : ∃ a cap, v = .slice a l.length cap := by
  obtain ⟨a, cap, rfl, -⟩ := h
  exact ⟨a, cap, rfl⟩
theorem NmRow.nil (w : World) (base : Nat) : NmRow w base (.slice none 0 0) [] := ⟨[], ⟨rfl, .inl ⟨rfl, rfl⟩⟩, rfl, fun i u r h => by simp at h⟩
def stepsOfS : List (List UInt8) → Option (List (List Part))
  | [] => some []
  | s :: t => match stepS s with
    | none => none
    | some p => (stepsOfS t).map ([p] :: ·)
def nameOfS (l : List (List UInt8)) : Except Int (List (List Part)) :=
  match stepsOfS l with
  | none => .error 6
  | some n => if 64 < n.length then .error 2 else .ok n
theorem stepsOf_next {ps : List (List UInt8)} {os : List (List Part)} {j : Nat} {s : List UInt8} {p : Part} (hR : stepsOfS ps = (stepsOfS (ps.drop j)).map (os ++ ·)) (hp : ps[j]? = some s) (hn : stepS s = some p) : stepsOfS ps = (stepsOfS (ps.drop (j + 1))).map ((os ++ [[p]]) ++ ·) := by
  have hd : ps.drop j = s :: ps.drop (j + 1) := by
    obtain ⟨h, rfl⟩ := List.getElem?_eq_some_iff.1 hp
    exact List.drop_eq_getElem_cons h
  rw [hR, hd]
  simp only [stepsOfS, hn, Option.map_map]
  congr 1
  funext y
  simp
theorem stepsOf_none {ps : List (List UInt8)} {os : List (List Part)} {j : Nat} {s : List UInt8} (hR : stepsOfS ps = (stepsOfS (ps.drop j)).map (os ++ ·)) (hp : ps[j]? = some s) (hn : stepS s = none) : stepsOfS ps = none := by
  have hd : ps.drop j = s :: ps.drop (j + 1) := by
    obtain ⟨h, rfl⟩ := List.getElem?_eq_some_iff.1 hp
    exact List.drop_eq_getElem_cons h
  rw [hR, hd]
  simp only [stepsOfS, hn, Option.map_none]
end Go.Q
namespace Go.Proofs.YtehlipgmkinfbaaGreatDoor
open Go Go.RowKit Go.Q
theorem info100 : (Tryz.prog.info? 100).map (fun i => (i.zero, i.size, i.bytes)) = some (some (.slice none 0 0), 1, 24) := by kernel_rfl
theorem NmRow.add {w wa : World} {base : Nat} {v : Value} {n : List (List Part)} (h : NmRow w base v n) (hb : base ≤ w.heap.size) (F1 : Fr (fun _ => False) w wa) (g : Nat) (u : Value) (r : List Part) (BX : Blk wa g 100 #[u]) (hu1 : u.oneCell' = true) (hu : Kept (fun W => Attrs W u r) (fun k => v.ownBlock = some k) w) (hn : n.length ≤ 109951162777) :
    ∃ a c w', (Builtin.append_ #[37, 37] 37 #[v, .slice (some ⟨g, 0, none⟩) 1 1]).run Tryz.prog wa = .ok (.slice a (n.length + 1) c) w' ∧ NmRow w' base (.slice a (n.length + 1) c) (n ++ [r]) ∧ Fr (fun k => v.ownBlock = some k) w w' := by
  obtain ⟨us, h1, h2, h3⟩ := h
  obtain ⟨a, c, w', hrun, h4, F2, h5⟩ := add_gen Tryz.underlying37 info100 rfl (by decide) (by decide) h1 hb F1 g [u] rfl BX (by simpa using hu1) hn
  refine ⟨a, c, w', hrun, ⟨us ++ [u], ?_, by simp [h2], fun i x s hx hs => ?_⟩, F2⟩
  · rw [List.length_append]
    exact h4
  · rcases Nat.lt_or_ge i us.length with hi | hi
    · rw [List.getElem?_append_left hi] at hx
      rw [List.getElem?_append_left (by omega)] at hs
      exact (h3 i x s hx hs).step F2 (fun _ _ h => h) h5
    · obtain rfl : i = us.length := by
        have := (List.getElem?_eq_some_iff.1 hx).1
        simp at this
        omega
      rw [List.getElem?_append_right (Nat.le_refl _)] at hx
      rw [List.getElem?_append_right (by omega)] at hs
      simp at hx
      simp [h2] at hs
      subst hx; subst hs
      exact hu.step F2 (fun _ _ h => h) h5
def NameOfOut (w w' : World) (l : List (List UInt8)) (e : Ending) : Prop :=
  match nameOfS l with
  | .error x => e = .returned (.tuple #[.slice none 0 0, .int .i64 x]) ∧ x ≠ 0
  | .ok n => ∃ v, e = .returned (.tuple #[v, .int .i64 0]) ∧ NmRow w' w.heap.size v n
set_option maxRecDepth 20000 in
set_option maxHeartbeats 2000000 in
theorem nameOf_any (v : Value) (ks : List (List UInt8)) (w : World) (h : Strs w v ks) (hE : Env w) (hk : ∀ k ∈ ks, k.length ≤ 10000000) (hl : ks.length ≤ 1000000) :
    Calls Tryz.prog 41 #[v] w fun e w' => NameOfOut w w' ks e ∧ Fr (fun _ => False) w w' := by
  have H := Lib.hid h
  have HE := Lib.hid hE
  have HK := Lib.hid hk
  obtain ⟨a, cap, rfl, hc, hm, -⟩ := Strs.form h
  clear h hE hk
  go_enter Tryz.func41, Tryz.ntmps41
  go_upto_region 2 with fail
  have B0 := Blk.new w 100 #[]
  have F0 : Fr (fun _ => False) w (w.alloc (.cells #[] 100)) := (Fr.refl w).alloc _
  have N0 : NmRow (w.alloc (.cells #[] 100)) w.heap.size (.slice (some ⟨w.heap.size, 0, none⟩) 0 0) [] := ⟨[], own_block B0 0 (Nat.le_refl _) (Nat.zero_le _) w.heap.size (Nat.le_refl _), rfl, fun i u r h => by simp at h⟩
  have HN0 := Lib.hid N0
  have HF0 := Lib.hid F0
  have hno : nameOfS ks = match stepsOfS ks with | none => .error 6 | some n => if 64 < n.length then .error 2 else .ok n := rfl
  have HNO := Lib.hid hno
  clear B0 F0 N0 hno
  generalize (w.alloc (.cells #[] 100)) = w1 at *
  go_wp2_with fail
  go_loopg [4, 12] ks.length (fun g u i wr => ∃ (j : Nat) (os : List (List Part)) (au : Option Addr) (cu : Nat), g = ks.length - j ∧ j ≤ ks.length ∧ u = .slice au os.length cu ∧ i = .int .i64 j ∧ os.length = j ∧ NmRow wr w.heap.size (.slice au os.length cu) os ∧ Fr (fun _ => False) w wr ∧ stepsOfS ks = (stepsOfS (ks.drop j)).map (os ++ ·))
  case atStart => exact ⟨0, [], _, 0, rfl, Nat.zero_le _, rfl, rfl, rfl, HN0.out, HF0.out, by simp⟩
  case round =>
    obtain ⟨j, os, au, cu, hg, hj, rfl, rfl, hos, hrow, F, hR⟩ := hrel
    have HG := Lib.hid hg
    have HOS := Lib.hid hos
    have HRW := Lib.hid hrow
    have HR := Lib.hid hR
    have HF := Lib.hid F
    clear hg hos hrow hR
    by_cases hjl : j < ks.length
    · obtain ⟨a0, cap0, he, _, _, hx⟩ := Strs.form (H.out.old F)
      simp only [Value.slice.injEq, true_and] at he
      obtain ⟨rfl, rfl⟩ := he
      obtain ⟨b, off, rfl, hy⟩ := hx (by omega)
      obtain ⟨s, hs⟩ : ∃ s, ks[j]? = some s := ⟨_, List.getElem?_eq_getElem hjl⟩
      have e1 := hy j s hs
      have hsl := HK.out s (List.mem_of_getElem? hs)
      have HSS := Lib.hid hs
      have HST := Lib.hid (nameStep_any s wr (HE.out.old F) hsl)
      have r1 : (0 : Int) ≤ (j : Int) := by omega
      have r2 : (j : Int) < (ks.length : Int) := by omega
      clear hx hy hs F
      go_wp2_with fail
      refine HST.out.mono ?_
      rintro e w2 ⟨hout, F2⟩
      unfold StepOut at hout
      cases hp : stepS s with
      | none =>
        rw [hp] at hout
        subst hout
        have hnone := stepsOf_none HR.out HSS.out hp
        have hres : nameOfS ks = .error 6 := by rw [HNO.out, hnone]
        have HRES := Lib.hid hres
        clear hp hnone hres
        go_wp2_with fail
        refine bodyPost_ret (v := .tuple #[.slice none 0 0, .int .i64 6]) (by simp [results, Tryz.results41, go_sem]) rfl ⟨?_, HF.out.trans F2⟩
        unfold NameOfOut
        rw [HRES.out]
        exact ⟨rfl, by decide⟩
      | some p =>
        rw [hp] at hout
        obtain ⟨ap, cp, rfl, hkp⟩ := hout
        have hnx := stepsOf_next HR.out HSS.out hp
        have HNX := Lib.hid hnx
        have F3 : Fr (fun _ => False) w2 (w2.alloc (.cells #[.slice ap 1 cp] 100)) := (Fr.refl w2).alloc _
        have hs1 := HF.out.size
        have hs2 := F2.size
        have hbk := HRW.out.kept
        obtain ⟨a', c', w4, hrun, hrow4, F4⟩ := NmRow.add (HRW.out.old F2) (by omega) F3 w2.heap.size (.slice ap 1 cp) [p] (Blk.new w2 100 #[.slice ap 1 cp]) rfl (hkp.step (Fr.refl w2) (fun _ _ h => h) (fun k hk => .inl (hbk k hk).2)) (by rw [HOS.out]; omega)
        have HRUN := Lib.hid hrun
        have HRW4 := Lib.hid hrow4
        have HF4 := Lib.hid ((HF.out.trans F2).trans' F4 (fun i hi e => by have := (hbk i e).1; omega))
        clear hnx hp hkp F2 F3 hrun hrow4 F4 hbk HRW HF HST
        go_wp2_with (at_builtin; refine wpList_append_run (by rfl) (.tmp 24) (.tmp 26) 37 (by rfl) _ w4 (by exact HRUN.out) ?_)
        go_roundg (ks.length - (j + 1))
        case measure => rw [HG.out]; omega
        case rel => exact ⟨j + 1, os ++ [[p]], a', c', rfl, by omega, by rw [List.length_append]; rfl, by go_num, by simp [HOS.out], by rw [List.length_append]; exact HRW4.out, HF4.out, HNX.out⟩
    · obtain rfl : j = ks.length := by omega
      have hd : ks.drop ks.length = [] := List.drop_length
      have hall : stepsOfS ks = some os := by rw [HR.out, hd]; simp [stepsOfS]
      have hres : nameOfS ks = if 64 < os.length then .error 2 else .ok os := by rw [HNO.out, hall]
      have HRES := Lib.hid hres
      clear hd hall hres
      by_cases h64 : 64 < os.length
      · have q1 : (64 : Int) < (os.length : Int) := by omega
        go_wp2_with fail
        refine bodyPost_ret (v := .tuple #[.slice none 0 0, .int .i64 2]) (by simp [results, Tryz.results41, go_sem]) rfl ⟨?_, HF.out⟩
        unfold NameOfOut
        rw [HRES.out, if_pos h64]
        exact ⟨rfl, by decide⟩
      · have q1 : ¬ (64 : Int) < (os.length : Int) := by omega
        go_wp2_with fail
        refine bodyPost_ret (v := .tuple #[.slice au os.length cu, .int .i64 0]) (by simp [results, Tryz.results41, go_sem]) rfl ⟨?_, HF.out⟩
        unfold NameOfOut
        rw [HRES.out, if_neg h64]
        exact ⟨_, rfl, HRW.out⟩
end Go.Proofs.YtehlipgmkinfbaaGreatDoor

namespace Go.Q
open Go Go.RowKit
def cmpI : List Int → List Int → Int
  | [], [] => 0
  | [], _ :: _ => -1
  | _ :: _, [] => 1
  | x :: s, y :: t => if x < y then -1 else if y < x then 1 else cmpI s t
end Go.Q
namespace Go.Proofs.YtehlipgmkinfbaaGreatDoor
open Go Go.RowKit Go.Q
theorem info105 : (Tryz.prog.info? 105).map (fun i => (i.zero, i.size, i.bytes)) = some (some (.agg #[.slice none 0 0, .slice none 0 0]), 2, 48) := by kernel_rfl
end Go.Proofs.YtehlipgmkinfbaaGreatDoor

namespace Go.Q
open Go Go.RowKit
def partTextS (ks : List Int) (p : Part) : Option (List UInt8) :=
  if ks ≠ [] ∧ p.o ≠ ks then none else match textReadS p.b with
    | .ok (k, t, _) => some (utf8S k t)
    | .error _ => none
def textsS (n : List (List Part)) (ks : List Int) : List (List UInt8) := if nameOk n = true then n.flatten.filterMap (partTextS ks) else []
end Go.Q
namespace Go.Proofs.YtehlipgmkinfbaaGreatDoor
open Go Go.RowKit Go.Q
end Go.Proofs.YtehlipgmkinfbaaGreatDoor

namespace Go.Proofs.YtehlipgmkinfbaaGreatDoor
open Go Go.RowKit Go.Q
end Go.Proofs.YtehlipgmkinfbaaGreatDoor

namespace Go.Proofs.YtehlipgmkinfbaaGreatDoor
open Go Go.RowKit Go.Q
set_option linter.unusedSimpArgs false
def rWholeOut (w w' : World) (o : List Int) (b : List UInt8) (e : Ending) : Prop :=
  match attrS o b with
  | none => e = .returned (.tuple #[.slice none 0 0, .bool false])
  | some x => ∃ v, e = .returned (.tuple #[v, .bool true]) ∧ w'.ownsRow w.heap.size 5 1 v x.length (Lib.byteCells x)
end Go.Proofs.YtehlipgmkinfbaaGreatDoor

namespace Go.Q
open Go Go.RowKit
end Go.Q
namespace Go.Proofs.YtehlipgmkinfbaaGreatDoor
open Go Go.RowKit Go.Q
end Go.Proofs.YtehlipgmkinfbaaGreatDoor

namespace Go.Proofs.YtehlipgmkinfbaaGreatDoor
open Go Go.RowKit Go.Q
set_option linter.unusedSimpArgs false
end Go.Proofs.YtehlipgmkinfbaaGreatDoor

namespace Go.Q
open Go Go.RowKit
def ARow (t : TypeId) (w wr : World) (base : Nat) (v : Value) (l : List Part) : Prop :=
  ∃ cs : List Value, wr.ownsRow base t 2 v l.length cs ∧ ∀ (i : Nat) (p : Part), l[i]? = some p → ∃ x y, cs[2 * i]? = some x ∧ cs[2 * i + 1]? = some y ∧ Vals w x (intCells p.o) ∧ Bytes w y p.b
theorem ARow.at {t : TypeId} {w wr : World} {base : Nat} {v : Value} {l : List Part} (h : ARow t w wr base v l) (F : Fr (fun _ => False) w wr) : Attrs wr v l := by
  obtain ⟨cs, ⟨h1, h2⟩, h3⟩ := h
  rcases h2 with ⟨rfl, h0⟩ | ⟨g, cap, cur, rfl, hg, hh, hnc, hcm, hcs, htk⟩
  · exact ⟨none, 0, by rw [h0], by omega, by unfold maxLen; omega, fun h => by omega⟩
  · refine ⟨_, cap, rfl, hnc, hcm, fun _ => ⟨g, 0, rfl, fun i p hp => ?_⟩⟩
    obtain ⟨x, y, e1, e2, e3, e4⟩ := h3 i p hp
    have hi := (List.getElem?_eq_some_iff.1 hp).1
    have gc : ∀ k, k < l.length * 2 → wr.cell? ⟨g, 0 + k, none⟩ = cs[k]? := fun k hk => by
      have := congrArg (fun z : List Value => z[k]?) htk
      simp only [List.getElem?_take, if_pos hk, Array.getElem?_toList] at this
      rw [Nat.zero_add]
      simp only [World.cell?, hh]
      exact this
    refine ⟨x, y, ?_, ?_, e3.old F, e4.old F⟩
    · rw [gc (2 * i) (by omega)]; exact e1
    · rw [Nat.add_assoc, gc (2 * i + 1) (by omega)]; exact e2
theorem ARow.nil (t : TypeId) (w wr : World) (base : Nat) : ARow t w wr base (.slice none 0 0) [] := ⟨[], ⟨rfl, .inl ⟨rfl, rfl⟩⟩, fun i p hp => by simp at hp⟩
theorem ARow.shape {t : TypeId} {w wr : World} {base : Nat} {v : Value} {l : List Part} (h : ARow t w wr base v l) : ∃ a c, v = .slice a l.length c := by
  obtain ⟨us, h1, -⟩ := h
  obtain ⟨a, m, c, rfl, rfl⟩ := own_shape h1
  exact ⟨a, c, rfl⟩
theorem ARow.keep {t : TypeId} {w wr : World} {base : Nat} {v : Value} {l : List Part} (h : ARow t w wr base v l) : ∀ k, v.ownBlock = some k → base ≤ k ∧ k < wr.heap.size := fun k hk => by
  obtain ⟨us, h1, -⟩ := h
  exact h1.lt k hk
theorem ARow.fr {t : TypeId} {S : Nat → Prop} {w wr w' : World} {base : Nat} {v : Value} {l : List Part} (h : ARow t w wr base v l) (f : Fr S wr w') (hS : ∀ k, v.ownBlock = some k → ¬ S k) : ARow t w w' base v l := by
  obtain ⟨us, h1, h2⟩ := h
  exact ⟨us, Go.Proofs.YtehlipgmkinfbaaGreatDoor.ownsRow_fr h1 f hS, h2⟩
theorem ARow.kept {t : TypeId} {w wr : World} {base : Nat} {v : Value} {l : List Part} (h : ARow t w wr base v l) (F : Fr (fun _ => False) w wr) (K : Nat → Prop) (hK : ∀ k, K k → w.heap.size ≤ k ∧ k < base) : Kept (fun W => Attrs W v l) K wr := fun W f =>
  (h.fr f (fun k hk h1 => by have := (h.keep k hk).1; have := (hK k h1).2; omega)).at (F.trans' f (fun i hi h1 => by have := (hK i h1).1; omega))
theorem ARow.add {P : Program} {t s : TypeId} (hu0 : P.underlying s = some (.slice t)) (hinf : Info P t (.agg #[.slice none 0 0, .slice none 0 0]) 2 48) {w wr wa : World} {base : Nat} {v x y : Value} {l : List Part} (h : ARow t w wr base v l) (hb : base ≤ wr.heap.size) (F1 : Fr (fun _ => False) wr wa) (g : Nat) (BX : Blk wa g t #[x, y]) (p : Part) (hx : Ints w x p.o) (hy : Bytes w y p.b) (hn : l.length ≤ 109951162777) :
    ∃ a c w', (Builtin.append_ #[s, s] s #[v, .slice (some ⟨g, 0, none⟩) 1 1]).run P wa = .ok (.slice a (l.length + 1) c) w' ∧ ARow t w w' base (.slice a (l.length + 1) c) (l ++ [p]) ∧ Fr (fun k => v.ownBlock = some k) wr w' := by
  obtain ⟨cs, h1, h2⟩ := h
  have hcl : cs.length = l.length * 2 := h1.1
  obtain ⟨ax, cx, rfl, -⟩ := Ints.form hx
  obtain ⟨ay, cy, rfl, -⟩ := Vals.form hy
  obtain ⟨a, c, w', hrun, h4, F2, h5⟩ := add_gen hu0 hinf rfl (by decide) (by decide) h1 hb F1 g [.slice ax p.o.length cx, .slice ay p.b.length cy] rfl BX (by intro u hu; simp at hu; rcases hu with rfl | rfl <;> rfl) hn
  refine ⟨a, c, w', hrun, ⟨cs ++ [.slice ax p.o.length cx, .slice ay p.b.length cy], by rw [List.length_append]; exact h4, fun i q hq => ?_⟩, F2⟩
  rcases Nat.lt_or_ge i l.length with hi | hi
  · rw [List.getElem?_append_left hi] at hq
    obtain ⟨x, y, e1, e2, e3⟩ := h2 i q hq
    exact ⟨x, y, by rw [List.getElem?_append_left (by omega)]; exact e1, by rw [List.getElem?_append_left (by omega)]; exact e2, e3⟩
  · obtain rfl : i = l.length := by
      have := (List.getElem?_eq_some_iff.1 hq).1
      simp at this
      omega
    rw [List.getElem?_append_right (Nat.le_refl _)] at hq
    simp at hq
    subst hq
    refine ⟨_, _, ?_, ?_, hx, hy⟩
    · rw [List.getElem?_append_right (by omega), show 2 * l.length - cs.length = 0 from by omega]; rfl
    · rw [List.getElem?_append_right (by omega), show 2 * l.length + 1 - cs.length = 1 from by omega]; rfl
def NRow (t : TypeId) (w : World) (base : Nat) (v : Value) (n : List (List Part)) : Prop :=
  ∃ us : List Value, w.ownsRow base t 1 v n.length us ∧ us.length = n.length ∧ ∀ (i : Nat) (u : Value) (r : List Part), us[i]? = some u → n[i]? = some r → Kept (fun W => Attrs W u r) (fun k => v.ownBlock = some k) w
theorem NRow.at {t : TypeId} {w : World} {base : Nat} {v : Value} {n : List (List Part)} (h : NRow t w base v n) : NameAt w v n := by
  obtain ⟨us, h1, h2, h3⟩ := h
  obtain ⟨a, cap, he, hc, hm, hx⟩ := (Vals.of_own h1).1
  rw [h2] at he hc hx
  refine ⟨a, cap, he, hc, hm, fun h0 => ?_⟩
  obtain ⟨b, o, rfl, hy⟩ := hx h0
  refine ⟨b, o, rfl, fun i r hr => ?_⟩
  have hi : i < us.length := by rw [h2]; exact (List.getElem?_eq_some_iff.1 hr).1
  exact ⟨us[i], hy i _ (List.getElem?_eq_getElem hi), (h3 i _ r (List.getElem?_eq_getElem hi) hr).now⟩
theorem NRow.old {t : TypeId} {w w' : World} {base : Nat} {v : Value} {n : List (List Part)} (h : NRow t w base v n) (f : Fr (fun _ => False) w w') : NRow t w' base v n := by
  obtain ⟨us, h1, h2, h3⟩ := h
  exact ⟨us, Go.Proofs.YtehlipgmkinfbaaGreatDoor.ownsRow_fr h1 f (fun _ _ h => h), h2, fun i u r hu hr => (h3 i u r hu hr).old f⟩
theorem NRow.keep {t : TypeId} {w : World} {base : Nat} {v : Value} {n : List (List Part)} (h : NRow t w base v n) : ∀ k, v.ownBlock = some k → base ≤ k ∧ k < w.heap.size := by
  obtain ⟨us, h1, -⟩ := h
  exact (Vals.of_own h1).2
theorem NRow.shape {t : TypeId} {w : World} {base : Nat} {v : Value} {n : List (List Part)} (h : NRow t w base v n) : ∃ a c, v = .slice a n.length c := by
  obtain ⟨us, h1, -⟩ := h
  obtain ⟨a, m, c, rfl, rfl⟩ := own_shape h1
  exact ⟨a, c, rfl⟩
theorem NRow.nil (t : TypeId) (w : World) (base : Nat) : NRow t w base (.slice none 0 0) [] := ⟨[], ⟨rfl, .inl ⟨rfl, rfl⟩⟩, rfl, fun i u r h => by simp at h⟩
theorem NRow.add {P : Program} {t s : TypeId} (hu0 : P.underlying s = some (.slice t)) (hinf : Info P t (.slice none 0 0) 1 24) {w wa : World} {base : Nat} {v : Value} {n : List (List Part)} (h : NRow t w base v n) (hb : base ≤ w.heap.size) (F1 : Fr (fun _ => False) w wa) (g : Nat) (u : Value) (r : List Part) (BX : Blk wa g t #[u]) (hu1 : u.oneCell' = true) (hu : Kept (fun W => Attrs W u r) (fun k => v.ownBlock = some k) w) (hn : n.length ≤ 109951162777) :
    ∃ a c w', (Builtin.append_ #[s, s] s #[v, .slice (some ⟨g, 0, none⟩) 1 1]).run P wa = .ok (.slice a (n.length + 1) c) w' ∧ NRow t w' base (.slice a (n.length + 1) c) (n ++ [r]) ∧ Fr (fun k => v.ownBlock = some k) w w' := by
  obtain ⟨us, h1, h2, h3⟩ := h
  obtain ⟨a, c, w', hrun, h4, F2, h5⟩ := add_gen hu0 hinf rfl (by decide) (by decide) h1 hb F1 g [u] rfl BX (by simpa using hu1) hn
  refine ⟨a, c, w', hrun, ⟨us ++ [u], ?_, by simp [h2], fun i x s hx hs => ?_⟩, F2⟩
  · rw [List.length_append]
    exact h4
  · rcases Nat.lt_or_ge i us.length with hi | hi
    · rw [List.getElem?_append_left hi] at hx
      rw [List.getElem?_append_left (by omega)] at hs
      exact (h3 i x s hx hs).step F2 (fun _ _ h => h) h5
    · obtain rfl : i = us.length := by
        have := (List.getElem?_eq_some_iff.1 hx).1
        simp at this
        omega
      rw [List.getElem?_append_right (Nat.le_refl _)] at hx
      rw [List.getElem?_append_right (by omega)] at hs
      simp at hx
      simp [h2] at hs
      subst hx; subst hs
      exact hu.step F2 (fun _ _ h => h) h5
end Go.Q

namespace Go.Q
open Go Go.RowKit
section
variable {P : Program}
theorem append_none {w : World} {base n : Nat} {t e : TypeId} {v : Value} {xs : List Value} {z : Value} {size bytes : Nat} (hu : P.underlying t = some (.slice e)) (hinf : Info P e z size bytes) (hown : w.ownsRow base e size v n xs) (c : Nat) :
    (Builtin.append_ #[t, t] t #[v, .slice none 0 c]).run P w = .ok v w := by
  obtain ⟨i0, hi0, hz0, hz1, hz2⟩ := info_parts hinf
  rcases hown.2 with ⟨rfl, rfl⟩ | ⟨g, cap, cur, rfl, _, _, hnc, _⟩
  · simp [Builtin.append_, run_underlying hu, sizeOf, typeInfo, hi0, Builtin.lenOf, Builtin.firstCells]
  · simp [Builtin.append_, run_underlying hu, sizeOf, typeInfo, hi0, Builtin.lenOf, Builtin.firstCells, hnc, storeCells]
theorem append_vals {w : World} {base n : Nat} {t e : TypeId} {v y : Value} {xs news : List Value} {z : Value} {bytes : Nat} (hu : P.underlying t = some (.slice e)) (hinf : Info P e z 1 bytes) (hzs : z.cells.size = 1) (hby : bytes ≤ 128)
    (hown : w.ownsRow base e 1 v n xs) (hb : base ≤ w.heap.size) (hy : Vals w y news) (h1 : ∀ u ∈ news, u.oneCell' = true) (hsz : n + news.length ≤ 1099511627776) :
    ∃ a' c' w', (Builtin.append_ #[t, t] t #[v, y]).run P w = .ok (.slice a' (n + news.length) c') w' ∧ w'.ownsRow base e 1 (.slice a' (n + news.length) c') (n + news.length) (xs ++ news) ∧ Fr (fun k => v.ownBlock = some k) w w' ∧ (∀ k, (Value.slice a' (n + news.length) c').ownBlock = some k → v.ownBlock = some k ∨ w.heap.size ≤ k) := by
  obtain ⟨a, cap, rfl, hc, hm, hx⟩ := hy
  cases a with
  | none =>
    have h0 : news = [] := by
      cases news with
      | nil => rfl
      | cons u s => obtain ⟨b, o, e, -⟩ := hx (by simp); cases e
    subst h0
    obtain ⟨av, m, cv, rfl, rfl⟩ := own_shape hown
    exact ⟨av, cv, w, append_none hu hinf hown cap, by simpa using hown, Fr.refl _, fun k hk => .inl hk⟩
  | some ad =>
    refine append_gen hu hinf hzs (by decide) hby hown hb ad news.length cap news (by omega) (fun j u hj => ?_) h1 hsz
    have hj2 := (List.getElem?_eq_some_iff.1 hj).1
    obtain ⟨b, o, e, hy⟩ := hx (by omega)
    simp only [Option.some.injEq] at e
    subst e
    rw [show (⟨b, o, none⟩ : Addr).add j = ⟨b, o + j, none⟩ from by unfold Addr.add; split <;> simp_all]
    exact hy j u hj
end
end Go.Q
namespace Go.Proofs.YtehlipgmkinfbaaGreatDoor
open Go Go.RowKit Go.Q
set_option linter.unusedSimpArgs false
set_option maxRecDepth 20000 in
set_option maxHeartbeats 1000000 in
theorem cloneInt_any (v : Value) (o : List Int) (w : World) (h : Ints w v o) (hl : o.length ≤ 100000000000) :
    Calls Tryz.prog 135 #[v] w fun e w' => (∃ u, e = .returned u ∧ w'.ownsRow w.heap.size 3 1 u o.length (intCells o)) ∧ Fr (fun _ => False) w w' := by
  obtain ⟨a, cap, rfl, -⟩ := Ints.form h
  have qT : ∀ (w : World) (a : Option Addr) (n c n' c' : Nat), (binOp .eql 103 (.slice a n c) (.slice none n' c')).run Tryz.prog w = .ok (.bool a.isNone) w := fun w a n c n' c' => Lib.run_eql_slice_nil w _ _ a n c n' c' Tryz.underlying103
  cases a with
  | none =>
    have h0 : o = [] := by
      obtain ⟨a0, c0, he, _, _, hx⟩ := Ints.form h
      cases o with
      | nil => rfl
      | cons u s =>
        obtain ⟨b, o, e, -⟩ := hx (by simp)
        simp only [Value.slice.injEq] at he
        rw [e] at he
        cases he.1
    subst h0
    clear h
    go_enter Tryz.func135, Tryz.ntmps135
    go_wp2_with fail
    go_ret
    exact ⟨⟨_, rfl, rfl, .inl ⟨rfl, rfl⟩⟩, Fr.refl _⟩
  | some ad =>
    have B0 := Blk.new w 3 #[]
    have F0 : Fr (fun _ => False) w (w.alloc (.cells #[] 3)) := (Fr.refl w).alloc _
    have hl2 : (intCells o).length = o.length := intCells_len o
    obtain ⟨a', c', w', hrun, hown, F1, -⟩ := append_vals Tryz.underlying103 info3 rfl (by decide) (own_block B0 0 (Nat.le_refl _) (Nat.zero_le _) w.heap.size (Nat.le_refl _)) F0.size (h.old F0) (intCells_one o) (by rw [hl2]; omega)
    rw [hl2, Nat.zero_add] at hrun hown
    have HF := Lib.hid (F0.trans' F1 (fun i hi e => by simp [Value.ownBlock] at e; omega))
    have HRUN := Lib.hid hrun
    have HOW := Lib.hid hown
    clear hrun hown F1 B0 F0 h hl2
    go_enter Tryz.func135, Tryz.ntmps135
    go_wp2_with (at_builtin; refine wpList_append_run (by rfl) (.tmp 5) (.tmp 6) 103 (by rfl) _ w' (by exact HRUN.out) ?_)
    go_ret
    exact ⟨⟨_, rfl, HOW.out⟩, HF.out⟩
set_option maxRecDepth 20000 in
set_option maxHeartbeats 1000000 in
theorem cloneByte_any (v : Value) (o : List UInt8) (w : World) (h : Bytes w v o) (hl : o.length ≤ 100000000000) :
    Calls Tryz.prog 114 #[v] w fun e w' => (∃ u, e = .returned u ∧ w'.ownsRow w.heap.size 5 1 u o.length (Lib.byteCells o)) ∧ Fr (fun _ => False) w w' := by
  obtain ⟨a, cap, rfl, -⟩ := Vals.form h
  have qT : ∀ (w : World) (a : Option Addr) (n c n' c' : Nat), (binOp .eql 38 (.slice a n c) (.slice none n' c')).run Tryz.prog w = .ok (.bool a.isNone) w := fun w a n c n' c' => Lib.run_eql_slice_nil w _ _ a n c n' c' Tryz.underlying38
  cases a with
  | none =>
    have h0 : o = [] := by
      obtain ⟨a0, c0, he, _, _, hx⟩ := Vals.form h
      cases o with
      | nil => rfl
      | cons u s =>
        obtain ⟨b, o, e, -⟩ := hx (by simp)
        simp only [Value.slice.injEq] at he
        rw [e] at he
        cases he.1
    subst h0
    clear h
    go_enter Tryz.func114, Tryz.ntmps114
    go_wp2_with fail
    go_ret
    exact ⟨⟨_, rfl, rfl, .inl ⟨rfl, rfl⟩⟩, Fr.refl _⟩
  | some ad =>
    have B0 := Blk.new w 5 #[]
    have F0 : Fr (fun _ => False) w (w.alloc (.cells #[] 5)) := (Fr.refl w).alloc _
    have hl2 : (Lib.byteCells o).length = o.length := byteCells_len o
    obtain ⟨a', c', w', hrun, hown, F1, -⟩ := append_vals Tryz.underlying38 info5 rfl (by decide) (own_block B0 0 (Nat.le_refl _) (Nat.zero_le _) w.heap.size (Nat.le_refl _)) F0.size (h.old F0) (byteCells_one o) (by rw [hl2]; omega)
    rw [hl2, Nat.zero_add] at hrun hown
    have HF := Lib.hid (F0.trans' F1 (fun i hi e => by simp [Value.ownBlock] at e; omega))
    have HRUN := Lib.hid hrun
    have HOW := Lib.hid hown
    clear hrun hown F1 B0 F0 h hl2
    go_enter Tryz.func114, Tryz.ntmps114
    go_wp2_with (at_builtin; refine wpList_append_run (by rfl) (.tmp 5) (.tmp 6) 38 (by rfl) _ w' (by exact HRUN.out) ?_)
    go_ret
    exact ⟨⟨_, rfl, HOW.out⟩, HF.out⟩
end Go.Proofs.YtehlipgmkinfbaaGreatDoor

namespace Go.Q
open Go Go.RowKit
theorem step_of {u : Value} {r : List Part} {K : Nat → Prop} {w : World} (h : Kept (fun W => Attrs W u r) K w) : Kept (fun W => RStep W [u] r) K w := fun W f => ⟨u, rfl, h W f⟩
end Go.Q

namespace Go.Q
open Go Go.RowKit
def Upward (ls : List (List UInt8)) : Prop := ∀ (j : Nat) (x y : List UInt8), ls[j]? = some x → ls[j + 1]? = some y → 0 ≤ cmpS y x
def rdnWhole (ws : List (List UInt8)) : List UInt8 := wrapS (tagOf 17) ws.flatten
end Go.Q
namespace Go.Proofs.YtehlipgmkinfbaaGreatDoor
open Go Go.RowKit Go.Q
set_option linter.unusedSimpArgs false
def writeRdnOut (w w' : World) (r : Option (List (List UInt8))) (e : Ending) : Prop :=
  match r with
  | none => e = .returned (.tuple #[.slice none 0 0, .int .i64 1])
  | some ws => ∃ a c, e = .returned (.tuple #[.slice a (rdnWhole ws).length c, .int .i64 0]) ∧ w'.ownsRow w.heap.size 5 1 (.slice a (rdnWhole ws).length c) (rdnWhole ws).length (Lib.byteCells (rdnWhole ws))
end Go.Proofs.YtehlipgmkinfbaaGreatDoor

namespace Go.Proofs.YtehlipgmkinfbaaGreatDoor
open Go Go.RowKit Go.Q
set_option linter.unusedSimpArgs false
structure Frm where
  tag : Tag
  set : Bool
  b : List UInt8
def frmCells (f : Frm) (bv : Value) : List Value := [.int .i64 f.tag.cls, .int .i64 f.tag.num, .bool f.tag.made, .bool f.set, bv]
def Frm.more (f : Frm) (l : List UInt8) : Frm := ⟨f.tag, f.set, f.b ++ l⟩
end Go.Proofs.YtehlipgmkinfbaaGreatDoor

namespace Go.Proofs.YtehlipgmkinfbaaGreatDoor
open Go Go.RowKit Go.Q
set_option linter.unusedSimpArgs false
end Go.Proofs.YtehlipgmkinfbaaGreatDoor

namespace Go.Proofs.YtehlipgmkinfbaaGreatDoor
open Go Go.RowKit Go.Q
set_option linter.unusedSimpArgs false
end Go.Proofs.YtehlipgmkinfbaaGreatDoor

namespace Go.Proofs.YtehlipgmkinfbaaGreatDoor
open Go Go.RowKit Go.Q
set_option linter.unusedSimpArgs false
end Go.Proofs.YtehlipgmkinfbaaGreatDoor

namespace Go.Q
open Go Go.RowKit
def wholesN (n : List (List Part)) : List (List UInt8) := n.map fun r => rdnWhole ((rdnS r).getD [])
def nameWhole (n : List (List Part)) : List UInt8 := wrapS (tagOf 16) (wholesN n).flatten
end Go.Q
namespace Go.Proofs.YtehlipgmkinfbaaGreatDoor
open Go Go.RowKit Go.Q
set_option linter.unusedSimpArgs false
end Go.Proofs.YtehlipgmkinfbaaGreatDoor

namespace Go.Q
open Go Go.RowKit
open Go.Proofs.YtehlipgmkinfbaaGreatDoor
end Go.Q
namespace Go.Proofs.YtehlipgmkinfbaaGreatDoor
open Go Go.RowKit Go.Q
set_option linter.unusedSimpArgs false
end Go.Proofs.YtehlipgmkinfbaaGreatDoor

namespace Go.Q
open Go
end Go.Q

namespace Go.Q
open Go
section
variable {α : Type} (rd : List UInt8 → Except Int (α × Nat)) (mx : Nat)
def manyGo : Nat → List α → List UInt8 → Except Int (List α)
  | _, out, [] => .ok out
  | 0, _, _ :: _ => .error 3
  | f + 1, out, x :: t =>
    if out.length = mx then .error 2 else
    match rd (x :: t) with
    | .error e => .error e
    | .ok (g, k) => manyGo f (out ++ [g]) ((x :: t).drop k)
def manySt (out : List α) (l : List UInt8) : Except Int (List α) := manyGo rd mx l.length out l
variable {rd mx}
end
end Go.Q

namespace Go.Q
open Go Go.RowKit
structure Gen where
  k : Int
  b : List UInt8
  n : List (List Part)
def madeG (k : Int) : Bool := k == 0 || k == 3 || k == 4 || k == 5
def tagAt (k : Int) (m : Bool) : Tag := ⟨2, k, m⟩
def genTag (k : Int) : Tag := tagAt k (madeG k)
def plainB (b : List UInt8) : Bool := decide (0 < b.length) && b.all (fun c => decide (c.toNat ≤ 127))
def wholesB (b : List UInt8) : Bool := match allS b with | .ok ls => decide (0 < ls.length) | .error _ => false
def oidB (b : List UInt8) : Bool := match oidParseS b with | .ok _ => true | .error _ => false
def contB (k : Int) (b : List UInt8) : Bool :=
  if k = 1 ∨ k = 2 ∨ k = 6 then plainB b else if k = 7 then decide (b.length = 4 ∨ b.length = 16) else if k = 8 then oidB b else if k = 0 ∨ k = 3 ∨ k = 5 then wholesB b else false
def genOk (g : Gen) : Bool := if g.k = 4 then decide (g.b.length = 0) && nameOk g.n else decide (g.n.length = 0) && contB g.k g.b
def genBody (g : Gen) : List UInt8 := if g.k = 4 then nameWhole g.n else g.b
def genWhole (g : Gen) : List UInt8 := wrapS (genTag g.k) (genBody g)
def fewG (g : Gen) : Prop := g.b.length ≤ 10000000 ∧ ∀ r ∈ g.n, fewB r
def genReadS (l : List UInt8) : Except Int (Gen × Nat) :=
  match readS l with
  | .error e => .error e
  | .ok (t, n, k) =>
    if t.cls ≠ 2 ∨ 8 < t.num ∨ t.made ≠ madeG t.num then .error 4 else
    if l.length - k < n then .error 3 else
    if t.num = 4 then (match nameParseS ((l.drop k).take n) with
      | .error e => .error e
      | .ok m => .ok (⟨4, [], m⟩, k + n)) else
    if contB t.num ((l.drop k).take n) then .ok (⟨t.num, (l.drop k).take n, []⟩, k + n) else .error 6
def genSt (out : List Gen) (l : List UInt8) : Except Int (List Gen) := manySt genReadS 10000 out l
def genAllS (l : List UInt8) : Except Int (List Gen) := if l = [] then .error 6 else genSt [] l
def genListS (l : List UInt8) : Except Int (List Gen × Nat) :=
  match openS (tagOf 16) l with
  | .error e => .error e
  | .ok (y, k) => match genAllS y with
    | .error e => .error e
    | .ok gs => .ok (gs, k)
def lowB (c : UInt8) : UInt8 := if 65 ≤ c.toNat ∧ c.toNat ≤ 90 then c + 32 else c
def lowerS (l : List UInt8) : List UInt8 := l.map lowB
def labelC (c : UInt8) : Bool := decide ((97 ≤ c.toNat ∧ c.toNat ≤ 122) ∨ (48 ≤ c.toNat ∧ c.toNat ≤ 57) ∨ c.toNat = 45 ∨ c.toNat = 95)
def labelB (l : List UInt8) : Bool := decide (1 ≤ l.length ∧ l.length ≤ 63) && (lowerS l).all labelC
def dotS (l : List UInt8) : List UInt8 := if l.getLast? = some 46 then l.dropLast else l
def hostS (l : List UInt8) : Option (List UInt8) := if 253 < (dotS l).length then none else if (cutAt 46 (dotS l)).all labelB then some (lowerS (dotS l)) else none
def lastTo (c : UInt8) (l : List UInt8) : Nat → Int
  | 0 => -1
  | j + 1 => if l[j]? = some c then (j : Int) else lastTo c l j
def lastS (c : UInt8) (l : List UInt8) : Int := lastTo c l l.length
def mailS (l : List UInt8) : List UInt8 := if lastS 64 l < 0 then l else l.take (lastS 64 l).toNat ++ lowerS (l.drop (lastS 64 l).toNat)
def meanS (g : Gen) : List UInt8 := if g.k = 4 then nameKeyS g.n else if g.k = 2 then (match hostS g.b with | some h => h | none => 35 :: hexS g.b) else if g.k = 1 then mailS g.b else hexS g.b
def genKeyS (g : Gen) : List UInt8 := Lib.itoa g.k ++ meanS g
def genSameS (a b : Gen) : Bool := genOk a && genOk b && decide (genKeyS a = genKeyS b)
def genMeetS (a b : List Gen) : Bool := a.any fun x => b.any fun y => genSameS x y
end Go.Q

namespace Go.Q
open Go
def cutPart (p : Part) : Part := ⟨p.o.take 40, p.b.take 200⟩
def cutStep (l : List Part) : List Part := (l.take 20).map cutPart
def cutName (n : List (List Part)) : List (List Part) := (n.take 70).map cutStep
theorem cutPart_few (p : Part) : (cutPart p).b.length ≤ 10000000 := by
  show (p.b.take 200).length ≤ 10000000
  rw [List.length_take]
  omega
theorem cutStep_few (l : List Part) : fewB (cutStep l) := fun p hp => by
  obtain ⟨q, -, rfl⟩ := List.mem_map.1 hp
  exact cutPart_few q
theorem cutName_few (n : List (List Part)) : ∀ r ∈ cutName n, fewB r := fun r hr => by
  obtain ⟨q, -, rfl⟩ := List.mem_map.1 hr
  exact cutStep_few q
theorem cutStep_len (l : List Part) : (cutStep l).length ≤ 20 := by
  unfold cutStep
  rw [List.length_map, List.length_take]
  omega
theorem cutName_len (n : List (List Part)) : (cutName n).length ≤ 70 := by
  unfold cutName
  rw [List.length_map, List.length_take]
  omega
theorem NameAt.form {w : World} {v : Value} {n : List (List Part)} (h : NameAt w v n) : ∃ a c, v = .slice a n.length c ∧ n.length ≤ c ∧ c ≤ maxLen := by
  obtain ⟨a, c, rfl, h1, h2, -⟩ := h
  exact ⟨a, c, rfl, h1, h2⟩
def underS (n m : List (List Part)) : Bool := nameOk n && (decide (m.length ≤ n.length) && nameSameS (n.take m.length) m)
end Go.Q

namespace Go.Q
open Go Go.RowKit
theorem Ints.cut {w : World} {a : Option Addr} {c : Nat} {l : List Int} (h : Ints w (.slice a l.length c) l) (N m : Nat) (hm : m = min l.length N) : Ints w (.slice a m c) (l.take N) := by
  obtain ⟨a0, c0, he, h1, h2, -⟩ := Ints.form h
  simp only [Value.slice.injEq] at he
  obtain ⟨rfl, -, rfl⟩ := he
  have := Vals.sub h 0 m (Nat.zero_le _) (by omega) a c (fun _ b o e => by simpa using e) (by omega) h2
  simp only [Nat.sub_zero, List.drop_zero] at this
  have e : l.take N = l.take m := by
    rw [hm, ← List.take_take, List.take_of_length_le (l := l.take N) (by rw [List.length_take]; omega)]
  unfold Ints intCells
  rw [e, List.map_take]
  exact this
theorem Vals.cut {w : World} {a : Option Addr} {c : Nat} {l : List UInt8} (h : Bytes w (.slice a l.length c) l) (N m : Nat) (hm : m = min l.length N) : Bytes w (.slice a m c) (l.take N) := by
  obtain ⟨a0, c0, he, h1, h2, -⟩ := Vals.form h
  simp only [Value.slice.injEq] at he
  obtain ⟨rfl, -, rfl⟩ := he
  have := Vals.sub h 0 m (Nat.zero_le _) (by omega) a c (fun _ b o e => by simpa using e) (by omega) h2
  simp only [Nat.sub_zero, List.drop_zero] at this
  have e : l.take N = l.take m := by
    rw [hm, ← List.take_take, List.take_of_length_le (l := l.take N) (by rw [List.length_take]; omega)]
  unfold Bytes Lib.byteCells
  rw [e, List.map_take]
  exact this
theorem map_take_succ {α β : Type} (f : α → β) {l : List α} {j : Nat} {x : α} (h : l[j]? = some x) : (l.take (j + 1)).map f = (l.take j).map f ++ [f x] := by
  rw [List.take_add_one, h]
  simp
end Go.Q
namespace Go.Proofs.YtehlipgmkinfbaaGreatDoor
open Go Go.RowKit Go.Q
set_option linter.unusedSimpArgs false
set_option maxRecDepth 20000 in
set_option maxHeartbeats 4000000 in
theorem lawStep_any (v : Value) (l : List Part) (w0 w : World) (h : Attrs w0 v l) (F0 : Fr (fun _ => False) w0 w) :
    Calls Tryz.prog 53 #[v] w fun e w' => (∃ a c, e = .returned (.slice a (cutStep l).length c) ∧ ARow 105 w0 w' w.heap.size (.slice a (cutStep l).length c) (cutStep l)) ∧ Fr (fun _ => False) w w' := by
  have H := Lib.hid h
  have HF0 := Lib.hid F0
  obtain ⟨a, cap, rfl, -⟩ := h
  have hcs : cutStep l = (l.take 20).map cutPart := rfl
  have HCS := Lib.hid hcs
  clear hcs F0
  go_enter Tryz.func53, Tryz.ntmps53
  go_wp2_with fail
  go_loopg [3, 4] l.length (fun g u i wr => ∃ (j : Nat) (au : Option Addr) (cu : Nat), g = l.length - j ∧ j ≤ l.length ∧ j ≤ 20 ∧ u = .slice au j cu ∧ i = .int .i64 j ∧ ARow 105 w0 wr w.heap.size (.slice au j cu) ((l.take j).map cutPart) ∧ Fr (fun _ => False) w wr)
  case atStart => exact ⟨0, none, 0, rfl, Nat.zero_le _, by omega, rfl, rfl, ARow.nil _ _ _ _, Fr.refl _⟩
  case round =>
    obtain ⟨j, au, cu, hg, hj, hj20, rfl, rfl, hrow, F⟩ := hrel
    have HG := Lib.hid hg
    have HRW := Lib.hid hrow
    have HF := Lib.hid F
    have hml : ((l.take j).map cutPart).length = j := by rw [List.length_map, List.length_take]; omega
    have HML := Lib.hid hml
    clear hg hrow hml
    by_cases hjl : j < l.length
    · have q1 : (j : Int) < (l.length : Int) := by omega
      by_cases h20 : j < 20
      · have q2 : (j : Int) < 20 := by omega
        obtain ⟨a0, cap0, he, _, _, hx⟩ := H.out
        simp only [Value.slice.injEq, true_and] at he
        obtain ⟨rfl, rfl⟩ := he
        obtain ⟨b, off, rfl, hy⟩ := hx (by omega)
        obtain ⟨p, hp⟩ : ∃ p, l[j]? = some p := ⟨_, List.getElem?_eq_getElem hjl⟩
        obtain ⟨x, y, e1, e2, hpx, hpy⟩ := hy j p hp
        obtain ⟨ax, cx, rfl, hcx, hmx, -⟩ := Ints.form hpx
        obtain ⟨ay, cy, rfl, hcy, hmy, -⟩ := Vals.form hpy
        have e1' : wr.cell? ⟨b, off + j * 2, none⟩ = some (.slice ax p.o.length cx) := by rw [Nat.mul_comm]; exact (HF0.out.trans F).cell e1 (fun h => h)
        have e2' : wr.cell? ⟨b, off + j * 2 + 1, none⟩ = some (.slice ay p.b.length cy) := by rw [Nat.mul_comm]; exact (HF0.out.trans F).cell e2 (fun h => h)
        obtain ⟨mo, hmo⟩ : ∃ m : Nat, m = min p.o.length 40 := ⟨_, rfl⟩
        obtain ⟨mb, hmb⟩ : ∃ m : Nat, m = min p.b.length 200 := ⟨_, rfl⟩
        have HPX := Lib.hid (Ints.cut hpx 40 mo hmo)
        have HPY := Lib.hid (Vals.cut hpy 200 mb hmb)
        have HMT := Lib.hid (map_take_succ cutPart hp)
        unfold maxLen at hmx hmy
        have c1 : min (p.o.length : Int) 40 = (mo : Int) := by omega
        have c2 : min (p.b.length : Int) 200 = (mb : Int) := by omega
        have c3 : (mo : Int) ≤ (cx : Int) := by omega
        have c4 : (mb : Int) ≤ (cy : Int) := by omega
        have c5 : (0 : Int) ≤ (mo : Int) := by omega
        have c6 : (0 : Int) ≤ (mb : Int) := by omega
        have r1 : (0 : Int) ≤ (j : Int) := by omega
        clear hx hy hp e1 e2 hpx hpy hmo hmb
        go_upto_region 6 with fail
        obtain ⟨z, hz⟩ : ∃ z, z = wr.heap.size := ⟨_, rfl⟩
        have BA := Blk.new wr 106 #[.slice ax p.o.length cx, .slice ay p.b.length cy]
        have F1 : Fr (fun _ => False) wr (wr.alloc (.cells #[.slice ax p.o.length cx, .slice ay p.b.length cy] 106)) := (Fr.refl wr).alloc _
        rw [← hz] at BA ⊢
        have HZ := Lib.hid hz
        clear hz e1' e2'
        generalize (wr.alloc (.cells #[.slice ax p.o.length cx, .slice ay p.b.length cy] 106)) = w1 at *
        obtain ⟨wa, hwa⟩ : ∃ wa, wa = w1.drew.alloc (.cells #[.slice ax mo cx, .slice ay mb cy] 105) := ⟨_, rfl⟩
        have Fa : Fr (fun _ => False) wr wa := by rw [hwa]; exact F1.drew.alloc _
        have BAa : Blk wa z 106 #[.slice ax p.o.length cx, .slice ay p.b.length cy] := by rw [hwa]; exact BA.drew.alloc _
        have BX : Blk wa w1.heap.size 105 #[.slice ax mo cx, .slice ay mb cy] := by rw [hwa]; exact Blk.new w1.drew _ _
        obtain ⟨a7, c7, w7, hrun, hrow7, F7⟩ := ARow.add Tryz.underlying100 info105 (HRW.out.fr Fa (fun _ _ h => h)) (HF.out.trans Fa).size (Fr.refl wa) w1.heap.size BX (cutPart p) HPX.out HPY.out (by rw [HML.out]; omega)
        have HG7 := Lib.hid ((HF.out.trans Fa).trans' F7 (fun i hi e => absurd hi (by have := (HRW.out.keep i e).1; omega)))
        have BA7 := BAa.fr F7 (fun e => by have := (HRW.out.keep z e).2; have := HZ.out; omega)
        rw [HML.out] at hrun hrow7
        have HRUN := Lib.hid hrun
        have HROW7 := Lib.hid hrow7
        have HC0 := Lib.hid BA.drew.cell
        have HCa := Lib.hid BAa.cell
        have HC7 := Lib.hid BA7.cell
        rw [hwa] at HCa HRUN
        clear hrun hrow7 F7 BA7 BAa BX Fa F1 BA hwa
        go_region_held3 (fun w' => ∀ j, w'.cell? ⟨z, j, none⟩ = (#[.slice ax p.o.length cx, .slice ay p.b.length cy] : Array Value)[j]?) (first | exact HC0.out | exact HCa.out | exact HC7.out) (first
          | (refine step_append_run (by rfl) (.tmp 20) (.tmp 36) 100 (by rfl) _ w7 (by exact HRUN.out) ?_)
          | fail)
        all_goals
          go_wp2_with fail
          go_roundg (l.length - (j + 1))
          case measure => rw [HG.out]; omega
          case rel => exact ⟨j + 1, a7, c7, rfl, by omega, by omega, rfl, by go_num, by rw [HMT.out]; exact HROW7.out, HG7.out⟩
      · obtain rfl : j = 20 := by omega
        have q2 : ¬ ((20 : Nat) : Int) < 20 := by omega
        have hres : (l.take 20).map cutPart = cutStep l := HCS.out.symm
        have hrow := HRW.out
        rw [hres] at hrow
        have hlen : 20 = (cutStep l).length := by rw [← hres, HML.out]
        have HL := Lib.hid hlen
        have HROW := Lib.hid hrow
        clear hres hrow hlen
        go_wp2_with fail
        go_ret
        exact ⟨⟨au, cu, by rw [← HL.out]; rfl, by rw [← HL.out]; exact HROW.out⟩, F⟩
    · obtain rfl : j = l.length := by omega
      have hres : (l.take l.length).map cutPart = cutStep l := by rw [HCS.out, List.take_of_length_le hj20, List.take_length]
      have hrow := HRW.out
      rw [hres] at hrow
      have hlen : l.length = (cutStep l).length := by rw [← hres, HML.out]
      have HL := Lib.hid hlen
      have HROW := Lib.hid hrow
      clear hres hrow hlen
      go_wp2_with fail
      go_ret
      exact ⟨⟨au, cu, by rw [← HL.out]; rfl, by rw [← HL.out]; exact HROW.out⟩, F⟩
end Go.Proofs.YtehlipgmkinfbaaGreatDoor

namespace Go.Q
open Go Go.RowKit
theorem Kept.weaken {R : World → Prop} {K K' : Nat → Prop} {w : World} (h : Kept R K w) (hK : ∀ k, K' k → K k) : Kept R K' w := fun W f => h W (f.mono (fun k _ hs => hK k hs))
theorem own_kept {w : World} {base n : Nat} {e : TypeId} {v : Value} {xs : List Value} (h : w.ownsRow base e 1 v n xs) (K : Nat → Prop) (hK : ∀ k, K k → k < base) : Kept (fun W => Vals W v xs) K w := fun W f =>
  (Vals.of_own (Go.Proofs.YtehlipgmkinfbaaGreatDoor.ownsRow_fr h f (fun k hk hs => by have := ((Vals.of_own h).2 k hk).1; have := hK k hs; omega))).1
end Go.Q

namespace Go.Q
open Go Go.RowKit
def FRow (K : Nat → Prop) (t : TypeId) (w : World) (base : Nat) (v : Value) (n : List (List Part)) : Prop :=
  ∃ us : List Value, w.ownsRow base t 1 v n.length us ∧ us.length = n.length ∧ ∀ (i : Nat) (u : Value) (r : List Part), us[i]? = some u → n[i]? = some r → Kept (fun W => Attrs W u r) (fun k => v.ownBlock = some k ∨ K k) w
theorem FRow.old {K : Nat → Prop} {t : TypeId} {w w' : World} {base : Nat} {v : Value} {n : List (List Part)} (h : FRow K t w base v n) (f : Fr (fun _ => False) w w') : FRow K t w' base v n := by
  obtain ⟨us, h1, h2, h3⟩ := h
  exact ⟨us, Go.Proofs.YtehlipgmkinfbaaGreatDoor.ownsRow_fr h1 f (fun _ _ h => h), h2, fun i u r hu hr => (h3 i u r hu hr).old f⟩
theorem FRow.keep {K : Nat → Prop} {t : TypeId} {w : World} {base : Nat} {v : Value} {n : List (List Part)} (h : FRow K t w base v n) : ∀ k, v.ownBlock = some k → base ≤ k ∧ k < w.heap.size := by
  obtain ⟨us, h1, -⟩ := h
  exact (Vals.of_own h1).2
theorem FRow.nil (K : Nat → Prop) (t : TypeId) (w : World) (base : Nat) : FRow K t w base (.slice none 0 0) [] := ⟨[], ⟨rfl, .inl ⟨rfl, rfl⟩⟩, rfl, fun i u r h => by simp at h⟩
theorem FRow.add {P : Program} {K : Nat → Prop} {t s : TypeId} (hu0 : P.underlying s = some (.slice t)) (hinf : Info P t (.slice none 0 0) 1 24) {w wa : World} {base : Nat} {v : Value} {n : List (List Part)} (h : FRow K t w base v n) (hb : base ≤ w.heap.size) (F1 : Fr (fun _ => False) w wa) (g : Nat) (u : Value) (r : List Part) (BX : Blk wa g t #[u]) (hu1 : u.oneCell' = true) (hu : Kept (fun W => Attrs W u r) (fun k => v.ownBlock = some k ∨ K k) w) (hn : n.length ≤ 109951162777) :
    ∃ a c w', (Builtin.append_ #[s, s] s #[v, .slice (some ⟨g, 0, none⟩) 1 1]).run P wa = .ok (.slice a (n.length + 1) c) w' ∧ FRow K t w' base (.slice a (n.length + 1) c) (n ++ [r]) ∧ Fr (fun k => v.ownBlock = some k) w w' := by
  obtain ⟨us, h1, h2, h3⟩ := h
  obtain ⟨a, c, w', hrun, h4, F2, h5⟩ := add_gen hu0 hinf rfl (by decide) (by decide) h1 hb F1 g [u] rfl BX (by simpa using hu1) hn
  have hst : ∀ (x : Value) (q : List Part), Kept (fun W => Attrs W x q) (fun k => v.ownBlock = some k ∨ K k) w → Kept (fun W => Attrs W x q) (fun k => (Value.slice a (n.length + 1) c).ownBlock = some k ∨ K k) w' := fun x q hq =>
    hq.step F2 (fun _ _ h => .inl h) (fun k hk => by
      rcases hk with h | h
      · rcases h5 k h with h | h
        · exact .inl (.inl h)
        · exact .inr h
      · exact .inl (.inr h))
  refine ⟨a, c, w', hrun, ⟨us ++ [u], ?_, by simp [h2], fun i x s hx hs => ?_⟩, F2⟩
  · rw [List.length_append]
    exact h4
  · rcases Nat.lt_or_ge i us.length with hi | hi
    · rw [List.getElem?_append_left hi] at hx
      rw [List.getElem?_append_left (by omega)] at hs
      exact hst _ _ (h3 i x s hx hs)
    · obtain rfl : i = us.length := by
        have := (List.getElem?_eq_some_iff.1 hx).1
        simp at this
        omega
      rw [List.getElem?_append_right (Nat.le_refl _)] at hx
      rw [List.getElem?_append_right (by omega)] at hs
      simp at hx
      simp [h2] at hs
      subst hx; subst hs
      exact hst _ _ hu
end Go.Q
namespace Go.Proofs.YtehlipgmkinfbaaGreatDoor
open Go Go.RowKit Go.Q
set_option linter.unusedSimpArgs false
end Go.Proofs.YtehlipgmkinfbaaGreatDoor

namespace Go.Q
open Go Go.RowKit
def RGen (W : World) (cs : List Value) (g : Gen) : Prop := ∃ vb vn, cs = [.int .i64 g.k, vb, vn] ∧ Bytes W vb g.b ∧ NameAt W vn g.n
def GenAt (W : World) (u : Value) (g : Gen) : Prop := ∃ vb vn, u = .agg #[.int .i64 g.k, vb, vn] ∧ Bytes W vb g.b ∧ NameAt W vn g.n
abbrev Gens (W : World) (v : Value) (l : List Gen) : Prop := LAt 3 RGen W v l
theorem RGen.old (w w' : World) (cs : List Value) (g : Gen) (h : RGen w cs g) (f : Fr (fun _ => False) w w') : RGen w' cs g := by
  obtain ⟨vb, vn, rfl, h1, h2⟩ := h
  exact ⟨vb, vn, rfl, h1.old f, h2.old f⟩
theorem GenAt.old {w w' : World} {u : Value} {g : Gen} (h : GenAt w u g) (f : Fr (fun _ => False) w w') : GenAt w' u g := by
  obtain ⟨vb, vn, rfl, h1, h2⟩ := h
  exact ⟨vb, vn, rfl, h1.old f, h2.old f⟩
theorem Gens.old {w w' : World} {v : Value} {l : List Gen} (h : Gens w v l) (f : Fr (fun _ => False) w w') : Gens w' v l := LAt.old RGen.old h f
theorem GenAt.form {w : World} {u : Value} {g : Gen} (h : GenAt w u g) : ∃ ab cb an cn, u = .agg #[.int .i64 g.k, .slice ab g.b.length cb, .slice an g.n.length cn] ∧ Bytes w (.slice ab g.b.length cb) g.b ∧ NameAt w (.slice an g.n.length cn) g.n := by
  obtain ⟨vb, vn, rfl, h1, h2⟩ := h
  obtain ⟨ab, cb, rfl, -⟩ := h1.form
  have h3 := h2
  obtain ⟨an, cn, rfl, -⟩ := h3
  exact ⟨ab, cb, an, cn, rfl, h1, h2⟩
theorem Gens.get {w : World} {a : Option Addr} {n c : Nat} {l : List Gen} (h : Gens w (.slice a n c) l) {i : Nat} {g : Gen} (hi : l[i]? = some g) : ∃ b o ab cb an cn, a = some ⟨b, o, none⟩ ∧ n = l.length ∧ GenAt w (.agg #[.int .i64 g.k, .slice ab g.b.length cb, .slice an g.n.length cn]) g ∧ w.cell? ⟨b, o + i * 3, none⟩ = some (.int .i64 g.k) ∧ w.cell? ⟨b, o + i * 3 + 1, none⟩ = some (.slice ab g.b.length cb) ∧ w.cell? ⟨b, o + i * 3 + 2, none⟩ = some (.slice an g.n.length cn) := by
  obtain ⟨a0, c0, he, h1, h2, h3⟩ := h
  simp only [Value.slice.injEq] at he
  obtain ⟨rfl, rfl, rfl⟩ := he
  have hil := (List.getElem?_eq_some_iff.1 hi).1
  obtain ⟨b, o, rfl, hy⟩ := h3 (by omega)
  obtain ⟨cs, -, e2, vb, vn, rfl, g1, g2⟩ := hy i g hi
  obtain ⟨ab, cb, rfl, -⟩ := g1.form
  have g3 := g2
  obtain ⟨an, cn, rfl, -⟩ := g3
  rw [Nat.mul_comm] at e2
  exact ⟨b, o, ab, cb, an, cn, rfl, rfl, ⟨_, _, rfl, g1, g2⟩, e2 0 _ rfl, e2 1 _ rfl, e2 2 _ rfl⟩
theorem NameAt.cut {w : World} {a : Option Addr} {c : Nat} {n : List (List Part)} (h : NameAt w (.slice a n.length c) n) (N m : Nat) (hm : m = min n.length N) : NameAt w (.slice a m c) (n.take N) := by
  obtain ⟨a0, c0, he, h1, h2, h3⟩ := h
  simp only [Value.slice.injEq] at he
  obtain ⟨rfl, -, rfl⟩ := he
  have hl : (n.take N).length = m := by rw [List.length_take]; omega
  refine ⟨a, c, by rw [hl], by omega, h2, fun h0 => ?_⟩
  obtain ⟨b, o, rfl, hy⟩ := h3 (by omega)
  refine ⟨b, o, rfl, fun i r hr => hy i r ?_⟩
  rw [List.getElem?_take] at hr
  split at hr
  · exact hr
  · cases hr
theorem NameAt.shape {w : World} {v : Value} {n : List (List Part)} (h : NameAt w v n) : ∃ a c, v = .slice a n.length c := by
  obtain ⟨a, c, rfl, -⟩ := h
  exact ⟨a, c, rfl⟩
theorem FRow.at {K : Nat → Prop} {t : TypeId} {w : World} {base : Nat} {v : Value} {n : List (List Part)} (h : FRow K t w base v n) : NameAt w v n := by
  obtain ⟨us, h1, h2, h3⟩ := h
  obtain ⟨a, cap, he, hc, hm, hx⟩ := (Vals.of_own h1).1
  rw [h2] at he hc hx
  refine ⟨a, cap, he, hc, hm, fun h0 => ?_⟩
  obtain ⟨b, o, rfl, hy⟩ := hx h0
  refine ⟨b, o, rfl, fun i r hr => ?_⟩
  have hi : i < us.length := by rw [h2]; exact (List.getElem?_eq_some_iff.1 hr).1
  have hu : us[i]? = some us[i] := List.getElem?_eq_getElem hi
  exact ⟨_, hy i _ hu, (h3 i _ r hu hr).now⟩
theorem FRow.kept {K : Nat → Prop} {t : TypeId} {w : World} {base : Nat} {v : Value} {n : List (List Part)} (h : FRow K t w base v n) (K' : Nat → Prop) (hK : ∀ k, K' k → K k ∧ k < base) : Kept (fun W => NameAt W v n) K' w := fun W f => by
  obtain ⟨us, h1, h2, h3⟩ := h
  have hk := (Vals.of_own h1).2
  refine FRow.at (K := K') (t := t) (base := base) ⟨us, Go.Proofs.YtehlipgmkinfbaaGreatDoor.ownsRow_fr h1 f (fun k hk2 hs => by have := (hk k hk2).1; have := (hK k hs).2; omega), h2, fun i u r hu hr => (h3 i u r hu hr).step f (fun k _ hs => .inr (hK k hs).1) (fun k hs => ?_)⟩
  rcases hs with hs | hs
  · exact .inl (.inl hs)
  · exact .inl (.inr (hK k hs).1)
end Go.Q

namespace Go.Q
open Go Go.RowKit
def InvAt (W : World) (v : Value) : Option Int → Prop
  | none => v = .pointer none
  | some t => ∃ b o, v = .pointer (some ⟨b, o, none⟩) ∧ W.cell? ⟨b, o, none⟩ = some (.int .i64 t)
theorem InvAt.old {w w' : World} {v : Value} {i : Option Int} (h : InvAt w v i) (f : Fr (fun _ => False) w w') : InvAt w' v i := by
  cases i with
  | none => exact h
  | some t =>
    obtain ⟨b, o, rfl, hc⟩ := h
    exact ⟨b, o, rfl, f.cell hc (fun h => h)⟩
theorem InvAt.form {w : World} {v : Value} {i : Option Int} (h : InvAt w v i) : ∃ q, v = .pointer q := by
  cases i with
  | none => exact ⟨none, h⟩
  | some t => obtain ⟨b, o, rfl, -⟩ := h; exact ⟨_, rfl⟩
def RRow (W : World) (cs : List Value) (r : RowP) : Prop := ∃ vi vs vp, cs = [vi, .bool r.num.below, vs, .int .i64 r.date, .int .i64 r.reason, vp] ∧ NameAt W vi r.iss ∧ Bytes W vs r.num.size ∧ InvAt W vp r.inv
def RSlot (W : World) (cs : List Value) (r : RowP) : Prop := ∃ us, cs = str (nameKeyS r.iss) :: us ∧ RRow W us r
def RRef (W : World) (cs : List Value) (r : RowP) : Prop := ∃ vi vs, cs = [vi, .bool r.num.below, vs, .int .i64 r.date, .int .i64 r.reason, .bool r.inv.isSome, .int .i64 (r.inv.getD 0)] ∧ NameAt W vi r.iss ∧ Bytes W vs r.num.size
structure RowI where
  iss : List (List Part)
  num : NumT
  date : Int
  reason : Int
  dated : Bool
  inv : Int
def RRefI (W : World) (cs : List Value) (r : RowI) : Prop := ∃ vi vs, cs = [vi, .bool r.num.below, vs, .int .i64 r.date, .int .i64 r.reason, .bool r.dated, .int .i64 r.inv] ∧ NameAt W vi r.iss ∧ Bytes W vs r.num.size
abbrev Rows (W : World) (v : Value) (l : List RowP) : Prop := LAt 6 RRow W v l
abbrev Slots (W : World) (v : Value) (l : List RowP) : Prop := LAt 7 RSlot W v l
abbrev Refs (W : World) (v : Value) (l : List RowP) : Prop := LAt 7 RRef W v l
abbrev RefsI (W : World) (v : Value) (l : List RowI) : Prop := LAt 7 RRefI W v l
theorem RRow.old (w w' : World) (cs : List Value) (r : RowP) (h : RRow w cs r) (f : Fr (fun _ => False) w w') : RRow w' cs r := by
  obtain ⟨vi, vs, vp, rfl, h1, h2, h3⟩ := h
  exact ⟨vi, vs, vp, rfl, h1.old f, h2.old f, h3.old f⟩
theorem RSlot.old (w w' : World) (cs : List Value) (r : RowP) (h : RSlot w cs r) (f : Fr (fun _ => False) w w') : RSlot w' cs r := by
  obtain ⟨us, rfl, h1⟩ := h
  exact ⟨us, rfl, RRow.old _ _ _ _ h1 f⟩
theorem RRef.old (w w' : World) (cs : List Value) (r : RowP) (h : RRef w cs r) (f : Fr (fun _ => False) w w') : RRef w' cs r := by
  obtain ⟨vi, vs, rfl, h1, h2⟩ := h
  exact ⟨vi, vs, rfl, h1.old f, h2.old f⟩
theorem RRefI.old (w w' : World) (cs : List Value) (r : RowI) (h : RRefI w cs r) (f : Fr (fun _ => False) w w') : RRefI w' cs r := by
  obtain ⟨vi, vs, rfl, h1, h2⟩ := h
  exact ⟨vi, vs, rfl, h1.old f, h2.old f⟩
theorem Rows.old {w w' : World} {v : Value} {l : List RowP} (h : Rows w v l) (f : Fr (fun _ => False) w w') : Rows w' v l := LAt.old RRow.old h f
theorem Slots.old {w w' : World} {v : Value} {l : List RowP} (h : Slots w v l) (f : Fr (fun _ => False) w w') : Slots w' v l := LAt.old RSlot.old h f
theorem Refs.old {w w' : World} {v : Value} {l : List RowP} (h : Refs w v l) (f : Fr (fun _ => False) w w') : Refs w' v l := LAt.old RRef.old h f
theorem RefsI.old {w w' : World} {v : Value} {l : List RowI} (h : RefsI w v l) (f : Fr (fun _ => False) w w') : RefsI w' v l := LAt.old RRefI.old h f
theorem RRow.form {w : World} {cs : List Value} {r : RowP} (h : RRow w cs r) : ∃ a c b d q, cs = [.slice a r.iss.length c, .bool r.num.below, .slice b r.num.size.length d, .int .i64 r.date, .int .i64 r.reason, .pointer q] ∧ NameAt w (.slice a r.iss.length c) r.iss ∧ Bytes w (.slice b r.num.size.length d) r.num.size ∧ InvAt w (.pointer q) r.inv := by
  obtain ⟨vi, vs, vp, rfl, h1, h2, h3⟩ := h
  obtain ⟨a, c, rfl⟩ := NameAt.shape h1
  obtain ⟨b, d, rfl, -⟩ := h2.form
  obtain ⟨q, rfl⟩ := h3.form
  exact ⟨a, c, b, d, q, rfl, h1, h2, h3⟩
theorem RRef.form {w : World} {cs : List Value} {r : RowP} (h : RRef w cs r) : ∃ a c b d, cs = [.slice a r.iss.length c, .bool r.num.below, .slice b r.num.size.length d, .int .i64 r.date, .int .i64 r.reason, .bool r.inv.isSome, .int .i64 (r.inv.getD 0)] ∧ NameAt w (.slice a r.iss.length c) r.iss ∧ Bytes w (.slice b r.num.size.length d) r.num.size := by
  obtain ⟨vi, vs, rfl, h1, h2⟩ := h
  obtain ⟨a, c, rfl⟩ := NameAt.shape h1
  obtain ⟨b, d, rfl, -⟩ := h2.form
  exact ⟨a, c, b, d, rfl, h1, h2⟩
theorem RRefI.form {w : World} {cs : List Value} {r : RowI} (h : RRefI w cs r) : ∃ a c b d, cs = [.slice a r.iss.length c, .bool r.num.below, .slice b r.num.size.length d, .int .i64 r.date, .int .i64 r.reason, .bool r.dated, .int .i64 r.inv] ∧ NameAt w (.slice a r.iss.length c) r.iss ∧ Bytes w (.slice b r.num.size.length d) r.num.size := by
  obtain ⟨vi, vs, rfl, h1, h2⟩ := h
  obtain ⟨a, c, rfl⟩ := NameAt.shape h1
  obtain ⟨b, d, rfl, -⟩ := h2.form
  exact ⟨a, c, b, d, rfl, h1, h2⟩
theorem RRow.one {w : World} {cs : List Value} {r : RowP} (h : RRow w cs r) : ∀ u ∈ cs, u.oneCell' = true := by
  obtain ⟨a, c, b, d, q, rfl, -⟩ := h.form
  simp [Value.oneCell']
theorem RSlot.one {w : World} {cs : List Value} {r : RowP} (h : RSlot w cs r) : ∀ u ∈ cs, u.oneCell' = true := by
  obtain ⟨us, rfl, h1⟩ := h
  intro u hu
  rcases List.mem_cons.1 hu with q | q
  · rw [q]; simp [Value.oneCell']
  · exact h1.one u q
theorem RRef.one {w : World} {cs : List Value} {r : RowP} (h : RRef w cs r) : ∀ u ∈ cs, u.oneCell' = true := by
  obtain ⟨a, c, b, d, rfl, -⟩ := h.form
  simp [Value.oneCell']
theorem LAt.get {α : Type} {sz : Nat} {R : World → List Value → α → Prop} {w : World} {a : Option Addr} {n c : Nat} {l : List α} (h : LAt sz R w (.slice a n c) l) {i : Nat} {x : α} (hi : l[i]? = some x) : ∃ b o cs, a = some ⟨b, o, none⟩ ∧ n = l.length ∧ cs.length = sz ∧ R w cs x ∧ ∀ j u, cs[j]? = some u → w.cell? ⟨b, o + i * sz + j, none⟩ = some u := by
  obtain ⟨a0, c0, he, h1, h2, h3⟩ := h
  simp only [Value.slice.injEq] at he
  obtain ⟨rfl, rfl, rfl⟩ := he
  have hil := (List.getElem?_eq_some_iff.1 hi).1
  obtain ⟨b, o, rfl, hy⟩ := h3 (by omega)
  obtain ⟨cs, e1, e2, e3⟩ := hy i x hi
  refine ⟨b, o, cs, rfl, rfl, e1, e3, fun j u hu => ?_⟩
  have := e2 j u hu
  rwa [Nat.mul_comm sz i] at this
def IxAt (W : World) (v : Value) (l : List RowP) : Prop := (v = .pointer none ∧ l = []) ∨ ∃ b u, v = .pointer (some ⟨b, 0, none⟩) ∧ W.cell? ⟨b, 0, none⟩ = some u ∧ Slots W u l
theorem IxAt.old {w w' : World} {v : Value} {l : List RowP} (h : IxAt w v l) (f : Fr (fun _ => False) w w') : IxAt w' v l := by
  rcases h with h | ⟨b, u, rfl, h1, h2⟩
  · exact .inl h
  · exact .inr ⟨b, u, rfl, f.cell h1 (fun h => h), Slots.old h2 f⟩
end Go.Q

namespace Go.Q
open Go Go.RowKit Go.ChangeShapes
variable {H : Type} {enc : TypeId × Value → H} {P : Program} {w : World} {base : Nat} {spare : Nat → Bool} {held : Bool}
theorem trod_struct6 {t : TypeId} {f0 f1 f2 f3 f4 f5 : Field} {fuel : Nat} {cs : List Value} {x : DataW H × List MemPlace} (ht : P.underlying t = some (.struct #[f0, f1, f2, f3, f4, f5])) (h : DataW.trod enc P w base spare held fuel t cs = some x) :
    ∃ y0 y1 y2 y3 y4 y5 n, cs.length = P.cellsOf t ∧ DataW.trod enc P w base spare held n f0.type ((cs.drop f0.offset).take (P.cellsOf f0.type)) = some y0 ∧
      DataW.trod enc P w base spare held n f1.type ((cs.drop f1.offset).take (P.cellsOf f1.type)) = some y1 ∧ DataW.trod enc P w base spare held n f2.type ((cs.drop f2.offset).take (P.cellsOf f2.type)) = some y2 ∧
      DataW.trod enc P w base spare held n f3.type ((cs.drop f3.offset).take (P.cellsOf f3.type)) = some y3 ∧ DataW.trod enc P w base spare held n f4.type ((cs.drop f4.offset).take (P.cellsOf f4.type)) = some y4 ∧
      DataW.trod enc P w base spare held n f5.type ((cs.drop f5.offset).take (P.cellsOf f5.type)) = some y5 := by
  obtain ⟨xs, n, _, rfl, hl, hlen, hf⟩ := DataW.trod_struct ht h
  match xs, hlen with
  | [y0, y1, y2, y3, y4, y5], _ => exact ⟨y0, y1, y2, y3, y4, y5, n, hl, by simpa using hf 0 f0 rfl, by simpa using hf 1 f1 rfl, by simpa using hf 2 f2 rfl, by simpa using hf 3 f3 rfl, by simpa using hf 4 f4 rfl, by simpa using hf 5 f5 rfl⟩
theorem seven_of {α : Type} {l : List α} (h : l.length = 7) : ∃ a b c d e f g, l = [a, b, c, d, e, f, g] := by
  match l, h with
  | [a, b, c, d, e, f, g], _ => exact ⟨a, b, c, d, e, f, g, rfl⟩
end Go.Q

namespace Go.Proofs.YtehlipgmkinfbaaGreatDoor
open Go Go.RowKit Go.Q Go.ChangeShapes Go.WideShapes Go.ChangeAt
section
variable {H : Type} {enc : TypeId × Value → H} {w : World} {base fuel : Nat} {spare : Nat → Bool} {held : Bool} {cs : List Value} {x : DataW H × List MemPlace}
theorem rc4 : Tryz.prog.cellsOf 4 = 1 := by kernel_rfl
theorem rc53 : Tryz.prog.cellsOf 53 = 1 := by kernel_rfl
theorem rc54 : Tryz.prog.cellsOf 54 = 2 := by kernel_rfl
theorem rc56 : Tryz.prog.cellsOf 56 = 7 := by kernel_rfl
theorem rd_num (h : DataW.trod enc Tryz.prog w base spare held fuel 54 cs = some x) : ∃ b v l, cs = [.bool b, v] ∧ Bytes w v l := by
  obtain ⟨y0, y1, n, _, hl, h0, h1⟩ := Go.ChangeShapes.trod_struct2 Tryz.underlying54 h
  rw [rc54] at hl
  obtain ⟨c0, c1, rfl⟩ := two_of hl
  have g0 : DataW.trod enc Tryz.prog w base spare held n 4 [c0] = some y0 := by rw [← show ([c0, c1].drop 0).take (Tryz.prog.cellsOf 4) = [c0] from by rw [rc4]; rfl]; exact h0
  have g1 : DataW.trod enc Tryz.prog w base spare held n 38 [c1] = some y1 := by rw [← show ([c0, c1].drop 1).take (Tryz.prog.cellsOf 38) = [c1] from by rw [rc38]; rfl]; exact h1
  obtain ⟨b, e, -⟩ := DataW.trod_bool Tryz.underlying4 g0
  obtain ⟨v, l, e1, hb⟩ := rd_bytes g1
  simp only [List.cons.injEq, and_true] at e e1
  subst e; subst e1
  exact ⟨b, c1, l, rfl, hb⟩
theorem rd_row (h : DataW.trod enc Tryz.prog w base spare held fuel 56 cs = some x) : ∃ y : RowI, RRefI w cs y := by
  obtain ⟨y0, y1, y2, y3, y4, y5, n, hl, h0, h1, h2, h3, h4, h5⟩ := trod_struct6 Tryz.underlying56 h
  rw [rc56] at hl
  obtain ⟨c0, c1, c2, c3, c4, c5, c6, rfl⟩ := seven_of hl
  have g0 : DataW.trod enc Tryz.prog w base spare held n 53 [c0] = some y0 := by rw [← show ([c0, c1, c2, c3, c4, c5, c6].drop 0).take (Tryz.prog.cellsOf 53) = [c0] from by rw [rc53]; rfl]; exact h0
  have g1 : DataW.trod enc Tryz.prog w base spare held n 54 [c1, c2] = some y1 := by rw [← show ([c0, c1, c2, c3, c4, c5, c6].drop 1).take (Tryz.prog.cellsOf 54) = [c1, c2] from by rw [rc54]; rfl]; exact h1
  have g2 : DataW.trod enc Tryz.prog w base spare held n 3 [c3] = some y2 := by rw [← show ([c0, c1, c2, c3, c4, c5, c6].drop 3).take (Tryz.prog.cellsOf 3) = [c3] from by rw [rc3]; rfl]; exact h2
  have g3 : DataW.trod enc Tryz.prog w base spare held n 3 [c4] = some y3 := by rw [← show ([c0, c1, c2, c3, c4, c5, c6].drop 4).take (Tryz.prog.cellsOf 3) = [c4] from by rw [rc3]; rfl]; exact h3
  have g4 : DataW.trod enc Tryz.prog w base spare held n 4 [c5] = some y4 := by rw [← show ([c0, c1, c2, c3, c4, c5, c6].drop 5).take (Tryz.prog.cellsOf 4) = [c5] from by rw [rc4]; rfl]; exact h4
  have g5 : DataW.trod enc Tryz.prog w base spare held n 3 [c6] = some y5 := by rw [← show ([c0, c1, c2, c3, c4, c5, c6].drop 6).take (Tryz.prog.cellsOf 3) = [c6] from by rw [rc3]; rfl]; exact h5
  obtain ⟨vi, ni, e0, hi⟩ := rd_name g0
  obtain ⟨b, vs, sz, e1, hs⟩ := rd_num g1
  obtain ⟨t0, e2, -, -⟩ := DataW.trod_int Tryz.underlying3 g2
  obtain ⟨t1, e3, -, -⟩ := DataW.trod_int Tryz.underlying3 g3
  obtain ⟨d, e4, -⟩ := DataW.trod_bool Tryz.underlying4 g4
  obtain ⟨t2, e5, -, -⟩ := DataW.trod_int Tryz.underlying3 g5
  simp only [List.cons.injEq, and_true] at e0 e1 e2 e3 e4 e5
  obtain ⟨rfl, rfl⟩ := e1
  subst e0; subst e2; subst e3; subst e4; subst e5
  exact ⟨⟨ni, ⟨b, sz⟩, t0, t1, d, t2⟩, c0, c2, rfl, hi, hs⟩
theorem rd_rows (h : DataW.trod enc Tryz.prog w base spare held fuel 22 cs = some x) : ∃ v l, cs = [v] ∧ RefsI w v l := by
  obtain ⟨a, cap, l, rfl, h1, h2, h3⟩ := rd_slice Tryz.underlying22 rc56 (by decide) (fun (g : RowI) ds => RRefI w ds g) (fun n ds y hy _ => rd_row hy) h
  refine ⟨_, l, rfl, a, cap, rfl, h1, h2, fun h0 => ?_⟩
  obtain ⟨b, o, rfl, hy⟩ := h3 h0
  refine ⟨b, o, rfl, fun i g hg => ?_⟩
  obtain ⟨ds, hd, hr, hj⟩ := hy i g hg
  exact ⟨ds, hd, hj, hr⟩
end
end Go.Proofs.YtehlipgmkinfbaaGreatDoor
