/-
  The walk of the layer 4 (oid): FromText. The walks of the layer 6 (text): Read, without kinds. The walks of the layer 13 (fold): blank, small, the closure of Signs. The walk of the layer 13 (fold): Signs. The walks of the layers 6 and 13: text.Utf8, fold.Key. The walk of the layer 1 (octet): Hex. The walks of the layer 14 (name): words, (Attr).key. The walk of the layer 14 (name): step. The walk of the layer 14 (name): Of. Go's library: slices.Grow of nil, slices.Concat of steps; slices.Compare of integers. The walk of the layer 14 (name): (Rdn).key. The walks of the layer 14 (name): Key, Same. The walks of the layers 4 and 14: oid.Compare, name.Texts. The reference of the layer 1: Compare, Same, Hex. The walk of the layer 4 (oid): Read; of the layer 14 (name): value. Slices of elements of any kind: read, and in rows of one's own. The walks of the layer 14 (name): attr. The walks of the layer 14 (name): rdn. The walks of the layer 14 (name): name, Read, ReadRdn, Parse. Rows of parts and of steps of one's own, of any type. Names that mean the same: plain laws, and names that are cut. The walks of the law's Step, To, Of. The references of the layers 4 and 14: reading of oids, steps and names.
-/
import Derived.Test.YtgffhiopbnkjbaaGreatDoorRb
import Derived.Test.YtgffhiopbnkjbaaGreatDoorRa
import Derived.Lib.AppendZerosOnto
import Derived.Lib.SliceRun
import Derived.Lib.Walk
namespace Go.Q
open Go Go.RowKit
/-- The numbers of texts, if each is one. -/
def numsOf : List (List UInt8) → Option (List Int)
  | [] => some []
  | p :: t => match numTextS p with
    | none => none
    | some n => (numsOf t).map ((n : Int) :: ·)
/-- A text's oid. -/
def fromTextS (l : List UInt8) : Except Int (List Int) :=
  match numsOf (cutAt 46 l) with
  | none => .error 6
  | some o => if oidOk o = true then .ok o else .error 1
theorem cutAt_len (c : UInt8) : ∀ l : List UInt8, (cutAt c l).length ≤ l.length + 1 ∧ ∀ p ∈ cutAt c l, p.length ≤ l.length
  | [] => by simp [cutAt]
  | x :: t => by
    obtain ⟨h1, h2⟩ := cutAt_len c t
    unfold cutAt
    split
    · refine ⟨by simp; omega, fun p hp => ?_⟩
      rcases List.mem_cons.1 hp with rfl | h
      · simp
      · have := h2 p h; simp; omega
    · split
      · refine ⟨by simp, fun p hp => ?_⟩
        rw [List.mem_singleton.1 hp]
        simp
      · rename_i h r he
        rw [he] at h1 h2
        refine ⟨by simp at h1 ⊢; omega, fun p hp => ?_⟩
        rcases List.mem_cons.1 hp with rfl | h
        · have := h2 h (by simp); simp; omega
        · have := h2 p (by simp [h]); simp; omega
theorem numsOf_next {ps : List (List UInt8)} {os : List Int} {j n : Nat} {p : List UInt8} (hR : numsOf ps = (numsOf (ps.drop j)).map (os ++ ·)) (hp : ps[j]? = some p) (hn : numTextS p = some n) : numsOf ps = (numsOf (ps.drop (j + 1))).map ((os ++ [(n : Int)]) ++ ·) := by
  have hd : ps.drop j = p :: ps.drop (j + 1) := by
    obtain ⟨h, rfl⟩ := List.getElem?_eq_some_iff.1 hp
    exact List.drop_eq_getElem_cons h
  rw [hR, hd]
  simp only [numsOf, hn, Option.map_map]
  congr 1
  funext y
  simp
theorem numsOf_none {ps : List (List UInt8)} {os : List Int} {j : Nat} {p : List UInt8} (hR : numsOf ps = (numsOf (ps.drop j)).map (os ++ ·)) (hp : ps[j]? = some p) (hn : numTextS p = none) : numsOf ps = none := by
  have hd : ps.drop j = p :: ps.drop (j + 1) := by
    obtain ⟨h, rfl⟩ := List.getElem?_eq_some_iff.1 hp
    exact List.drop_eq_getElem_cons h
  rw [hR, hd]
  simp only [numsOf, hn, Option.map_none]
end Go.Q
namespace Go.Proofs.YtgffhiopbnkjbaaGreatDoor
open Go Go.RowKit Go.Q

/-- What FromText gives. -/
def fromTextOut (w w' : World) (l : List UInt8) (e : Ending) : Prop :=
  match fromTextS l with
  | .error x => e = .returned (.tuple #[.slice none 0 0, .int .i64 x]) ∧ x ≠ 0
  | .ok o => ∃ u, e = .returned (.tuple #[u, .int .i64 0]) ∧ w'.ownsRow w.heap.size 3 1 u o.length (intCells o)

set_option maxRecDepth 20000 in
set_option maxHeartbeats 1000000 in
theorem fromText_any (l : List UInt8) (w : World) (hE : Env w) (hl : l.length ≤ 1000000000) :
    Calls Tryz.prog 89 #[str l] w fun e w' => fromTextOut w w' l e ∧ Fr (fun _ => False) w w' := by
  have HS := Lib.hid (strSplit_any l 46 w hE (by omega))
  obtain ⟨hpl, hpm⟩ := cutAt_len 46 l
  have hft : fromTextS l = match numsOf (cutAt 46 l) with | none => .error 6 | some o => if oidOk o = true then .ok o else .error 1 := rfl
  have HFT := Lib.hid hft
  have HPM := Lib.hid hpm
  clear hE hft hpm
  generalize cutAt 46 l = ps at *
  go_enter Tryz.func89, Tryz.ntmps89
  go_wp2_with fail
  refine HS.out.mono ?_
  rintro e w1 ⟨rfl, hS, F1⟩
  have HSS := Lib.hid hS
  clear HS hS
  go_wp2_with fail
  go_loopg [4, 12] ps.length (fun g u i wr => ∃ (j : Nat) (os : List Int) (a : Option Addr) (c : Nat), g = ps.length - j ∧ j ≤ ps.length ∧ u = .slice a j c ∧ i = .int .i64 j ∧ os.length = j ∧ wr.ownsRow w1.heap.size 3 1 (.slice a j c) j (intCells os) ∧ Fr (fun _ => False) w1 wr ∧ numsOf ps = (numsOf (ps.drop j)).map (os ++ ·))
  case atStart => exact ⟨0, [], none, 0, rfl, Nat.zero_le _, rfl, rfl, rfl, ⟨rfl, .inl ⟨rfl, rfl⟩⟩, Fr.refl _, by simp⟩
  case round =>
    obtain ⟨j, os, a, c, hg, hj, rfl, rfl, hos, hown, F, hR⟩ := hrel
    have HG := Lib.hid hg
    have HOS := Lib.hid hos
    have HOW := Lib.hid hown
    have HR := Lib.hid hR
    clear hg hos hown hR
    by_cases hjl : j < ps.length
    · obtain ⟨a0, cap0, he, _, _, hx⟩ := Strs.form (HSS.out.old F)
      simp only [Value.slice.injEq, true_and] at he
      obtain ⟨he1, he2⟩ := he
      obtain ⟨b, off, hbo, hy⟩ := hx (by omega)
      rw [← he1] at hbo
      simp only [Option.some.injEq, Addr.mk.injEq, and_true] at hbo
      obtain ⟨p, hp⟩ : ∃ p, ps[j]? = some p := ⟨_, List.getElem?_eq_getElem hjl⟩
      have e1 := hy j p hp
      rw [← hbo.1, ← hbo.2, Nat.zero_add] at e1
      have hpp := HPM.out p (List.mem_of_getElem? hp)
      have r1 : (0 : Int) ≤ (j : Int) := by omega
      have r2 : (j : Int) < (ps.length : Int) := by omega
      have HP := Lib.hid hp
      clear he1 he2 hx hy hbo hp
      go_wp2_with fail
      refine (oidNumber_any p wr (by omega)).mono ?_
      rintro e w2 ⟨rfl, F2⟩
      cases hn : numTextS p with
      | none =>
        have hno := numsOf_none HR.out HP.out hn
        have hres : fromTextS l = .error 6 := by rw [HFT.out, hno]
        have HRES := Lib.hid hres
        have hnv : numOut none = .tuple #[.int .i64 0, .bool false] := rfl
        rw [hnv]
        clear hno hres hn hnv
        go_wp2_with fail
        refine bodyPost_ret (v := .tuple #[.slice none 0 0, .int .i64 6]) (by simp [results, Tryz.results89, go_sem]) rfl ⟨?_, (F1.trans F).trans F2⟩
        unfold fromTextOut
        rw [HRES.out]
        exact ⟨rfl, by decide⟩
      | some n =>
        have hnx := numsOf_next HR.out HP.out hn
        have HNX := Lib.hid hnx
        have hnv : numOut (some n) = .tuple #[.int .i64 n, .bool true] := rfl
        rw [hnv]
        have F3 : Fr (fun _ => False) w2 (w2.alloc (.cells #[.int .i64 n] 3)) := (Fr.refl w2).alloc _
        have hs1 := F1.size
        have hs2 := F.size
        have hs3 := F2.size
        have hbk := (Vals.of_own HOW.out).2
        obtain ⟨a', c', w4, hrun, hown4, F4, hk4⟩ := add_int (ownsRow_fr HOW.out F2 (fun _ _ h => h)) (by omega) (by omega) (n : Int) w2.heap.size F3 (Blk.new w2 3 #[.int .i64 n])
        have HRUN := Lib.hid hrun
        have HOW4 := Lib.hid hown4
        have HF4 := Lib.hid ((F.trans F2).trans' F4 (fun i hi e => by have := (hbk i e).1; omega))
        clear hnx hn hnv F3 hrun hown4 F4 hbk hk4
        go_wp2_with (at_builtin; refine wpList_append_run (by rfl) (.tmp 23) (.tmp 25) 22 (by rfl) _ w4 (by exact HRUN.out) ?_)
        go_roundg (ps.length - (j + 1))
        case measure => rw [HG.out]; omega
        case rel => exact ⟨j + 1, os ++ [(n : Int)], a', c', rfl, by omega, rfl, by go_num, by simp [HOS.out], HOW4.out, HF4.out, HNX.out⟩
    · obtain rfl : j = ps.length := by omega
      have hd : ps.drop ps.length = [] := List.drop_length
      have hno : numsOf ps = some os := by rw [HR.out, hd]; simp [numsOf]
      have hri := (Vals.of_own HOW.out).1
      have HRG := Lib.hid (oidRight_any _ os _ hri)
      have hres : fromTextS l = if oidOk os = true then .ok os else .error 1 := by rw [HFT.out, hno]
      have HRES := Lib.hid hres
      clear hd hno hri hres
      cases hok : oidOk os with
      | false =>
        rw [hok] at HRG
        have HOK := Lib.hid hok
        clear hok
        go_wp2_with fail
        refine HRG.out.mono ?_
        rintro e w5 ⟨rfl, rfl⟩
        go_wp2_with fail
        refine bodyPost_ret (v := .tuple #[.slice none 0 0, .int .i64 1]) (by simp [results, Tryz.results89, go_sem]) rfl ⟨?_, F1.trans F⟩
        unfold fromTextOut
        rw [HRES.out, HOK.out]
        exact ⟨rfl, by decide⟩
      | true =>
        rw [hok] at HRG
        have HOK := Lib.hid hok
        clear hok
        go_wp2_with fail
        refine HRG.out.mono ?_
        rintro e w5 ⟨rfl, rfl⟩
        go_wp2_with fail
        refine bodyPost_ret (v := .tuple #[.slice a ps.length c, .int .i64 0]) (by simp [results, Tryz.results89, go_sem]) rfl ⟨?_, F1.trans F⟩
        unfold fromTextOut
        rw [HRES.out, HOK.out]
        exact ⟨_, rfl, by rw [HOS.out]; exact own_le HOW.out F1.size⟩
end Go.Proofs.YtgffhiopbnkjbaaGreatDoor

namespace Go.Q
open Go Go.RowKit
/-- The text in front, of whatever kind. -/
def textReadS (l : List UInt8) : Except Int (Int × List UInt8 × Nat) :=
  match readS l with
  | .error e => .error e
  | .ok (t, n, k) => if t.cls ≠ 0 ∨ t.made = true ∨ kindOk t.num = false then .error 4 else if l.length - k < n then .error 3 else
    if rightS t.num ((l.drop k).take n) = true then .ok (t.num, (l.drop k).take n, k + n) else .error 6
end Go.Q
namespace Go.Proofs.YtgffhiopbnkjbaaGreatDoor
open Go Go.RowKit Go.Q
/-- What Read gives. -/
def TextOut (w w' : World) (c : Nat) (K : Nat → Prop) (bs : List UInt8) (p : Nat) (e : Ending) : Prop :=
  match textReadS (bs.drop p) with
  | .error x => e = .returned (.tuple #[.agg #[.int .i64 0, .slice none 0 0], .int .i64 x]) ∧ x ≠ 0 ∧ CurAt w' c K bs p
  | .ok (k, b, n) => (∃ u, e = .returned (.tuple #[.agg #[.int .i64 k, u], .int .i64 0]) ∧ w'.ownsRow w.heap.size 5 1 u b.length (Lib.byteCells b)) ∧ CurAt w' c K bs (p + n)

set_option maxRecDepth 20000 in
theorem textFail_any {w : World} {c b2 b6 : Nat} {K : Nat → Prop} {bs : List UInt8} {p q : Nat} (x : Int) (h : CurAt w c K bs q) (hpq : p ≤ q) (B2 : Blk w b2 67 #[pt c]) (B6 : Blk w b6 3 #[.int .i64 p]) :
    Calls Tryz.prog 131 #[.int .i64 x, pt b2, pt b6] w fun e w' => e = .returned (.tuple #[.agg #[.int .i64 0, .slice none 0 0], .int .i64 x]) ∧ CurAt w' c K bs p ∧ Fr (fun k => k = c) w w' := by
  have hlc := h.lt
  obtain ⟨z, hz⟩ : ∃ z, z = w.heap.size := ⟨_, rfl⟩
  have F0 : Fr (fun _ => False) w (w.alloc (.cells #[.int .i64 0, .slice none 0 0] 107)) := (Fr.refl w).alloc _
  have BZ := Blk.new w 107 #[.int .i64 0, .slice none 0 0]
  rw [← hz] at BZ
  have H := Lib.hid (h.step (K' := fun k => K k ∨ w.heap.size ≤ k) F0 (fun _ _ h => h.elim) (fun _ h => h))
  have e2 := (B2.fr F0 (fun h => h)).cell 0
  have e6 := (B6.fr F0 (fun h => h)).cell 0
  simp at e2 e6
  have HZ := Lib.hid hz
  have HF := Lib.hid F0
  have hzc : z ≠ c := by omega
  clear h hz F0 B2 B6
  go_enter Tryz.func131, Tryz.ntmps131
  go_upto_region 1 with fail
  rw [← HZ.out]
  generalize (w.alloc (.cells #[.int .i64 0, .slice none 0 0] 107)) = w1 at *
  go_wp2_with fail
  refine (back_any H.out p hpq).mono ?_
  rintro e w2 ⟨rfl, C2, F2⟩
  have BZ2 := BZ.fr F2 hzc
  have z0 := BZ2.cell 0
  have z1 := BZ2.cell 1
  have f0 := BZ2.frozen 0
  have f1 := BZ2.frozen 1
  simp at z0 z1
  obtain ⟨BZ3, F3⟩ := set2 BZ2 (.int .i64 0) (.slice none 0 0)
  have hlc2 := C2.lt
  have HC3 := Lib.hid (C2.step (K' := K) F3 (fun k hk e => .inr (by have := HZ.out; omega)) (fun _ h => .inl (.inl h)))
  have HF3 := Lib.hid (((HF.out.mono (T := fun k => k = c) (fun _ _ h => h.elim)).trans F2).trans' F3 (fun i hi e => by have := HZ.out; omega))
  have n0 := BZ3.cell 0
  have n1 := BZ3.cell 1
  simp at n0 n1
  clear C2 F2 F3 BZ3 BZ2 BZ HF H
  go_wp2_with fail
  exact bodyPost_ret (v := .tuple #[.agg #[.int .i64 0, .slice none 0 0], .int .i64 x]) (by simp [results, Tryz.results131, go_sem, n0, n1]) rfl ⟨rfl, HC3.out, HF3.out⟩

set_option maxRecDepth 20000 in
set_option maxHeartbeats 2000000 in
theorem textRead_any {w : World} {c : Nat} {K : Nat → Prop} {bs : List UInt8} {p : Nat} (h : CurAt w c K bs p) (hT : Tabs w) (hK : ¬ (1 = c ∨ 2 = c)) :
    Calls Tryz.prog 94 #[pt c, .slice none 0 0] w fun e w' => TextOut w w' c K bs p e ∧ Fr (fun k => k = c) w w' := by
  have hlc := h.lt
  have hle := h.le
  have hsm := h.small
  obtain ⟨z, hz⟩ : ∃ z, z = w.heap.size := ⟨_, rfl⟩
  have F0 : Fr (fun _ => False) w (((w.alloc (.cells #[pt c] 67)).alloc (.cells #[.int .i64 0, .slice none 0 0] 107)).alloc (.cells #[.int .i64 12, .int .i64 19, .int .i64 20, .int .i64 22, .int .i64 26, .int .i64 30] 3)) := (((Fr.refl w).alloc _).alloc _).alloc _
  have BP := ((Blk.new w 67 #[pt c]).alloc (.cells #[.int .i64 0, .slice none 0 0] 107)).alloc (.cells #[.int .i64 12, .int .i64 19, .int .i64 20, .int .i64 22, .int .i64 26, .int .i64 30] 3)
  have BZ := (Blk.new (w.alloc (.cells #[pt c] 67)) 107 #[.int .i64 0, .slice none 0 0]).alloc (.cells #[.int .i64 12, .int .i64 19, .int .i64 20, .int .i64 22, .int .i64 26, .int .i64 30] 3)
  have BY := Blk.new ((w.alloc (.cells #[pt c] 67)).alloc (.cells #[.int .i64 0, .slice none 0 0] 107)) 3 #[.int .i64 12, .int .i64 19, .int .i64 20, .int .i64 22, .int .i64 26, .int .i64 30]
  have H := Lib.hid (h.step (K' := fun k => K k ∨ w.heap.size ≤ k) F0 (fun _ _ h => h.elim) (fun _ h => h))
  rw [World.size_alloc, World.size_alloc] at BY
  rw [World.size_alloc] at BZ
  rw [← hz] at BP BZ BY
  have HZ := Lib.hid hz
  have HF := Lib.hid (F0.mono (T := fun k => k = c) (fun _ _ h => h.elim))
  have HT := Lib.hid (hT.old F0)
  have hzc : c < z := by omega
  clear h hz F0 hT
  go_enter Tryz.func94, Tryz.ntmps94
  go_upto_region 3 with (first | (go_at_call 129; go_in))
  rw [← HZ.out]
  generalize (((w.alloc (.cells #[pt c] 67)).alloc (.cells #[.int .i64 0, .slice none 0 0] 107)).alloc (.cells #[.int .i64 12, .int .i64 19, .int .i64 20, .int .i64 22, .int .i64 26, .int .i64 30] 3)) = w0 at *
  have p0 := BP.cell 0
  simp at p0
  have hy := BY.lt
  go_wp2_with fail
  refine (at_any H.out).mono ?_
  rintro e w' ⟨rfl, rfl⟩
  go_upto_region 4 with fail
  obtain ⟨t, ht⟩ : ∃ t, t = w0.heap.size := ⟨_, rfl⟩
  have BT := Blk.new w0 3 #[.int .i64 p]
  have F1 : Fr (fun _ => False) w0 (w0.alloc (.cells #[.int .i64 p] 3)) := (Fr.refl w0).alloc _
  have BP1 := BP.fr F1 (fun h => h)
  have BZ1 := BZ.fr F1 (fun h => h)
  have BY1 := BY.fr F1 (fun h => h)
  have HT1 := Lib.hid (HT.out.old F1)
  have H1 := Lib.hid (H.out.old F1)
  have HF1 := Lib.hid (HF.out.trans (F1.mono (fun _ _ h => h.elim)))
  rw [← ht] at BT ⊢
  have hzt : z + 3 ≤ t := by omega
  clear p0 BP BZ BY HT H HF F1 ht
  generalize (w0.alloc (.cells #[.int .i64 p] 3)) = w1 at *
  have p0 := BP1.cell 0
  simp at p0
  go_wp2_with fail
  refine (headRead_any H1.out).mono ?_
  rintro e w2 ⟨⟨tg, n, x, rfl, hout⟩, C2, F2⟩
  obtain ⟨tc, tn, tm⟩ := tg
  rw [show tagV ⟨tc, tn, tm⟩ = .agg #[.int .i64 tc, .int .i64 tn, .bool tm] from rfl]
  have ht1 := BT.lt
  have h1c := H1.out.lt
  have BP2 := BP1.fr F2 (by omega)
  have BZ2 := BZ1.fr F2 (by omega)
  have BY2 := BY1.fr F2 (by omega)
  have BT2 := BT.fr F2 (by omega)
  go_upto_region 5 with fail
  obtain ⟨g, hg⟩ : ∃ g, g = w2.heap.size := ⟨_, rfl⟩
  have hgt : t < g := by have := BT2.lt; omega
  have BG := Blk.new w2 130 #[.int .i64 tc, .int .i64 tn, .bool tm]
  have F3 : Fr (fun _ => False) w2 (w2.alloc (.cells #[.int .i64 tc, .int .i64 tn, .bool tm] 130)) := (Fr.refl w2).alloc _
  replace BP2 := BP2.fr F3 (fun h => h)
  replace BZ2 := BZ2.fr F3 (fun h => h)
  replace BY2 := BY2.fr F3 (fun h => h)
  replace BT2 := BT2.fr F3 (fun h => h)
  have HC3 := Lib.hid (C2.old F3)
  have HF3 := Lib.hid ((HF1.out.trans F2).trans (F3.mono (fun _ _ h => h.elim)))
  have HT3 := Lib.hid ((HT1.out.fr F2 (fun e => hK (.inl e)) (fun e => hK (.inr e))).old F3)
  have HO := Lib.hid hout
  rw [← hg] at BG ⊢
  clear p0 BP1 BZ1 BY1 BT HT1 H1 HF1 F2 F3 C2 hg hout ht1 h1c
  generalize (w2.alloc (.cells #[.int .i64 tc, .int .i64 tn, .bool tm] 130)) = w3 at *
  have z0 := BZ2.cell 0
  have z1 := BZ2.cell 1
  have f0 := BZ2.frozen 0
  have f1 := BZ2.frozen 1
  have q0 := BP2.cell 0
  have q1 := BT2.cell 0
  simp at z0 z1 q0 q1
  by_cases hx : x = 0
  · subst hx
    obtain ⟨k, hr⟩ : ∃ k, readS (bs.drop p) = .ok (⟨tc, tn, tm⟩, n, k) := by
      have ho := HO.out
      cases hr : readS (bs.drop p) with
      | error e => rw [hr] at ho; exact absurd ho.symm (readS_err hr)
      | ok vk => obtain ⟨v, m, k⟩ := vk; rw [hr] at ho; exact ⟨k, by rw [ho.1, ho.2.1]⟩
    have hc3 := HC3.out
    rw [hr] at hc3
    have HC4 := Lib.hid (show CurAt w3 c (fun k => K k ∨ w.heap.size ≤ k) bs (p + k) from hc3)
    have hpk : p + k ≤ bs.length := HC4.out.le
    have hts : textReadS (bs.drop p) = if tc ≠ 0 ∨ tm = true ∨ Go.Q.kindOk tn = false then .error 4 else if (bs.drop p).length - k < n then .error 3 else if rightS tn (((bs.drop p).drop k).take n) = true then .ok (tn, ((bs.drop p).drop k).take n, k + n) else .error 6 := by unfold textReadS; rw [hr]
    rw [List.length_drop, List.drop_drop] at hts
    have HTS := Lib.hid hts
    have HTC := Lib.hid (show ∀ W, Fr (fun k => k = c) w W → Blk W (z + 1) 107 #[.int .i64 0, .slice none 0 0] → ∀ er : Int, textReadS (bs.drop p) = .error er → er ≠ 0 → CurAt W c (fun k => K k ∨ w.heap.size ≤ k) bs p → ∃ W', W' = (W.setCell ⟨z + 1, 0, none⟩ (.int .i64 0)).setCell ⟨z + 1, 1, none⟩ (.slice none 0 0) ∧ Blk W' (z + 1) 107 #[.int .i64 0, .slice none 0 0] ∧ TextOut w W' c K bs p (.returned (.tuple #[.agg #[.int .i64 0, .slice none 0 0], .int .i64 er])) ∧ Fr (fun k => k = c) w W' from fun W FW BW er hs her hcw => by
      obtain ⟨BZ3, F4⟩ := set2 BW (.int .i64 0) (.slice none 0 0)
      refine ⟨_, rfl, BZ3, ?_, FW.trans' F4 (fun i hi e => by have := HZ.out; omega)⟩
      unfold TextOut
      rw [hs]
      exact ⟨rfl, her, hcw.step F4 (fun k hk e => .inr (by have := HZ.out; omega)) (fun _ h => .inl (.inl h))⟩)
    clear hr hc3 hts HC3 HO
    have HFAIL := Lib.hid (textFail_any (p := p) 4 HC4.out (by omega) BP2 BT2)
    have hcn := Go.Proofs.Tryz.slices_Contains_int (z + 1 + 1) 0 6 6 [12, 19, 20, 22, 26, 30] tn w3 (by simp) (by omega) (fun j hj => by
      rw [Nat.zero_add, BY2.cell]
      match j, hj with
      | 0, _ => rfl
      | 1, _ => rfl
      | 2, _ => rfl
      | 3, _ => rfl
      | 4, _ => rfl
      | 5, _ => rfl
      | j + 6, hj => simp at hj; omega)
    rw [show ([12, 19, 20, 22, 26, 30] : List Int).take 6 = [12, 19, 20, 22, 26, 30] from rfl, kind_contains] at hcn
    have HCN := Lib.hid (show Calls Tryz.prog 132 #[.slice (some ⟨z + 1 + 1, 0, none⟩) 6 6, .int .i64 tn] w3 fun e w' => e = .returned (.bool (Go.Q.kindOk tn)) ∧ w3 = w' from hcn.mono (fun _ _ h => ⟨h.1, h.2.symm⟩))
    clear hcn
    have g0 := BG.cell 0
    have g1 := BG.cell 1
    have g2 := BG.cell 2
    simp at g0 g1 g2
    by_cases hb : tc ≠ 0 ∨ tm = true ∨ Go.Q.kindOk tn = false
    · have hs : textReadS (bs.drop p) = .error 4 := by rw [HTS.out, if_pos hb]
      have HS := Lib.hid hs
      clear hs
      have hcase : ((tc == 0) = false ∧ (tc != 0) = true) ∨ (tc = 0 ∧ tm = true) ∨ (tc = 0 ∧ tm = false ∧ Go.Q.kindOk tn = false) := by
        by_cases h0 : tc = 0
        · cases tm with
          | true => exact .inr (.inl ⟨h0, rfl⟩)
          | false => rcases hb with h | h | h
                     · exact absurd h0 h
                     · cases h
                     · exact .inr (.inr ⟨h0, rfl, h⟩)
        · exact .inl ⟨beq_eq_false_iff_ne.2 h0, by simpa using h0⟩
      clear hb
      rcases hcase with ⟨h, h'⟩ | ⟨rfl, rfl⟩ | ⟨rfl, rfl, hkn⟩
      all_goals
        go_wp2_with (first | (go_at_call 132; refine HCN.out.mono ?_; rintro e w' ⟨rfl, rfl⟩))
        refine HFAIL.out.mono ?_
        rintro e w5 ⟨rfl, C5, F5⟩
        have BZ5 := BZ2.fr F5 (by omega)
        obtain ⟨W', hW', BW', hout, FW'⟩ := HTC.out w5 (HF3.out.trans F5) BZ5 4 HS.out (by decide) C5
        have HOUT := Lib.hid hout
        have HFW := Lib.hid FW'
        have HWW := Lib.hid hW'
        have z0' := BZ5.cell 0
        have z1' := BZ5.cell 1
        have f0' := BZ5.frozen 0
        have f1' := BZ5.frozen 1
        simp at z0' z1'
        have n0 := BW'.cell 0
        have n1 := BW'.cell 1
        simp at n0 n1
        clear C5 F5 BZ5 hW' BW' hout FW'
        go_wp2_with fail
        rw [← HWW.out]
        refine bodyPost_ret (v := .tuple #[.agg #[.int .i64 0, .slice none 0 0], .int .i64 4]) (by simp [results, Tryz.results94, go_sem, n0, n1]) rfl ⟨HOUT.out, HFW.out⟩
    · have hb0 : tc = 0 ∧ tm = false ∧ Go.Q.kindOk tn = true := by
        refine ⟨Classical.byContradiction fun h => hb (.inl h), ?_, ?_⟩
        · cases tm with
          | true => exact absurd (.inr (.inl rfl)) hb
          | false => rfl
        · cases h : Go.Q.kindOk tn with
          | true => rfl
          | false => exact absurd (.inr (.inr h)) hb
      have hs1 := HTS.out
      rw [if_neg hb] at hs1
      obtain ⟨rfl, rfl, hkn⟩ := hb0
      clear hb
      by_cases hn : bs.length - (p + k) < n
      · rw [if_pos (by omega)] at hs1
        have HS := Lib.hid hs1
        have HTK := Lib.hid (take_end HC4.out n hn)
        clear hs1
        go_wp2_with (first | (go_at_call 132; refine HCN.out.mono ?_; rintro e w' ⟨rfl, rfl⟩))
        refine HTK.out.mono ?_
        rintro e w4 ⟨rfl, F4⟩
        have BP4 := BP2.fr F4 (fun h => h)
        have BT4 := BT2.fr F4 (fun h => h)
        have BZ4 := BZ2.fr F4 (fun h => h)
        have HFAIL3 := Lib.hid (textFail_any (p := p) 3 (HC4.out.old F4) (by omega) BP4 BT4)
        have HF4 := Lib.hid (HF3.out.trans (F4.mono (fun _ _ h => h.elim)))
        clear F4 BP4 BT4 BP2 BT2 BY2 HCN g0 g1 g2 z0 z1 f0 f1 q0 q1 BZ2
        go_wp2_with fail
        refine HFAIL3.out.mono ?_
        rintro e w5 ⟨rfl, C5, F5⟩
        have BZ5 := BZ4.fr F5 (by omega)
        obtain ⟨W', hW', BW', hout, FW'⟩ := HTC.out w5 (HF4.out.trans F5) BZ5 3 HS.out (by decide) C5
        have HOUT := Lib.hid hout
        have HFW := Lib.hid FW'
        have HWW := Lib.hid hW'
        have z0' := BZ5.cell 0
        have z1' := BZ5.cell 1
        have f0' := BZ5.frozen 0
        have f1' := BZ5.frozen 1
        simp at z0' z1'
        have n0 := BW'.cell 0
        have n1 := BW'.cell 1
        simp at n0 n1
        clear C5 F5 BZ5 hW' BW' hout FW'
        go_wp2_with fail
        rw [← HWW.out]
        refine bodyPost_ret (v := .tuple #[.agg #[.int .i64 0, .slice none 0 0], .int .i64 3]) (by simp [results, Tryz.results94, go_sem, n0, n1]) rfl ⟨HOUT.out, HFW.out⟩
      · rw [if_neg (by omega)] at hs1
        obtain ⟨b, hbb⟩ : ∃ b, b = (bs.drop (p + k)).take n := ⟨_, rfl⟩
        have hbl : b.length = n := by rw [hbb, List.length_take, List.length_drop]; omega
        rw [← hbb] at hs1
        have HS := Lib.hid hs1
        have HTK := take_ok HC4.out n (by omega)
        rw [← hbb] at HTK
        have HTK := Lib.hid HTK
        have hl3 := BG.lt
        clear hs1 hbb
        go_wp2_with (first | (go_at_call 132; refine HCN.out.mono ?_; rintro e w' ⟨rfl, rfl⟩))
        refine HTK.out.mono ?_
        rintro e w4 ⟨v4, rfl, ho4, C4, F4⟩
        have BP4 := BP2.fr F4 (by omega)
        have BT4 := BT2.fr F4 (by omega)
        have BZ4 := BZ2.fr F4 (by omega)
        have BG4 := BG.fr F4 (by omega)
        have HT4 := Lib.hid (HT3.out.fr F4 (fun e => hK (.inl e)) (fun e => hK (.inr e)))
        obtain ⟨a4, m4, c4, rfl, rfl⟩ := own_shape ho4
        have HF4 := Lib.hid (HF3.out.trans F4)
        have HO4 := Lib.hid ho4
        have HC5 := Lib.hid C4
        have hv4 := (Vals.of_own ho4).1
        clear HT3 HC4 F4 BP2 BT2 BY2 HCN g0 g1 g2 z0 z1 f0 f1 q0 q1 BZ2 BG C4 ho4 HTK
        have g1 := BG4.cell 1
        simp at g1
        go_upto_region 14 with fail
        obtain ⟨y, hy⟩ : ∃ y, y = w4.heap.size := ⟨_, rfl⟩
        have BX := Blk.new w4 107 #[.int .i64 tn, .slice a4 m4 c4]
        have F5 : Fr (fun _ => False) w4 (w4.alloc (.cells #[.int .i64 tn, .slice a4 m4 c4] 107)) := (Fr.refl w4).alloc _
        have hv5 := hv4.old F5
        have HR := Lib.hid (rightText_any tn _ b _ hv5 (HT4.out.old F5))
        have BP5 := BP4.fr F5 (fun h => h)
        have BT5 := BT4.fr F5 (fun h => h)
        have BZ5 := BZ4.fr F5 (fun h => h)
        have HC5' := Lib.hid (HC5.out.old F5)
        have HO5 := Lib.hid (ownsRow_fr HO4.out F5 (fun _ _ h => h))
        have HF5 := Lib.hid (HF4.out.trans (F5.mono (fun _ _ h => h.elim)))
        rw [← hy] at BX ⊢
        clear HC5 HO4 HF4 F5 BP4 BT4 BZ4 BG4 hv4 hv5 g1 hy HT4
        generalize (w4.alloc (.cells #[.int .i64 tn, .slice a4 m4 c4] 107)) = w5 at *
        have x0 := BX.cell 0
        have x1 := BX.cell 1
        simp at x0 x1
        cases hrt : rightS tn b with
        | false =>
          have hs1 := HS.out
          rw [hrt] at hs1
          simp only [Bool.false_eq_true, ↓reduceIte] at hs1
          rw [hrt] at HR
          have HS6 := Lib.hid hs1
          clear hs1 HS hrt
          go_wp2_with (first | (go_at_call 127; refine HR.out.mono ?_; rintro e w6 ⟨rfl, F6⟩))
          have HFAIL6 := Lib.hid (textFail_any (p := p) 6 (HC5'.out.old F6) (by omega) (BP5.fr F6 (fun h => h)) (BT5.fr F6 (fun h => h)))
          refine HFAIL6.out.mono ?_
          rintro e w7 ⟨rfl, C7, F7⟩
          have BZ7 := (BZ5.fr F6 (fun h => h)).fr F7 (by omega)
          obtain ⟨W', hW', BW', hout, FW'⟩ := HTC.out w7 ((HF5.out.trans (F6.mono (fun _ _ h => h.elim))).trans F7) BZ7 6 HS6.out (by decide) C7
          have HOUT := Lib.hid hout
          have HFW := Lib.hid FW'
          have HWW := Lib.hid hW'
          have z0' := BZ7.cell 0
          have z1' := BZ7.cell 1
          have f0' := BZ7.frozen 0
          have f1' := BZ7.frozen 1
          simp at z0' z1'
          have n0 := BW'.cell 0
          have n1 := BW'.cell 1
          simp at n0 n1
          clear C7 F7 BZ7 hW' BW' hout FW'
          go_wp2_with fail
          rw [← HWW.out]
          refine bodyPost_ret (v := .tuple #[.agg #[.int .i64 0, .slice none 0 0], .int .i64 6]) (by simp [results, Tryz.results94, go_sem, n0, n1]) rfl ⟨HOUT.out, HFW.out⟩
        | true =>
          have hs1 := HS.out
          rw [hrt] at hs1
          simp only [↓reduceIte] at hs1
          rw [hrt] at HR
          have HS6 := Lib.hid hs1
          clear hs1 HS hrt
          go_wp2_with (first | (go_at_call 127; refine HR.out.mono ?_; rintro e w6 ⟨rfl, F6⟩; have BX6 := BX.fr F6 (fun h => h); have BZ6 := BZ5.fr F6 (fun h => h); have x0' := BX6.cell 0; have x1' := BX6.cell 1; have z0' := BZ6.cell 0; have z1' := BZ6.cell 1; have f0' := BZ6.frozen 0; have f1' := BZ6.frozen 1; simp only [List.getElem?_toArray, List.getElem?_cons_succ, List.getElem?_cons_zero] at x0' x1' z0' z1'))
          obtain ⟨BZ7, F7⟩ := set2 (BZ5.fr F6 (fun h => h)) (.int .i64 tn) (.slice a4 m4 c4)
          have n0 := BZ7.cell 0
          have n1 := BZ7.cell 1
          simp at n0 n1
          have hob : ∀ q, (Value.slice a4 m4 c4).ownBlock = some q → w3.heap.size ≤ q := fun q hq => ((Vals.of_own HO5.out).2 q hq).1
          have HO7 := Lib.hid (own_le (ownsRow_fr (ownsRow_fr HO5.out F6 (fun _ _ h => h)) F7 (fun q hq e => by have := hob q hq; omega)) (base' := w.heap.size) (by have := HZ.out; omega))
          have HC7 := Lib.hid ((HC5'.out.old F6).step (K' := K) F7 (fun q hq e => .inr (by have := HZ.out; omega)) (fun _ h => .inl (.inl h)))
          have HF7 := Lib.hid ((HF5.out.trans (F6.mono (fun _ _ h => h.elim))).trans' F7 (fun i hi e => by have := HZ.out; omega))
          refine bodyPost_ret (v := .tuple #[.agg #[.int .i64 tn, .slice a4 m4 c4], .int .i64 0]) (by simp [results, Tryz.results94, go_sem, n0, n1]) rfl ⟨?_, HF7.out⟩
          unfold TextOut
          rw [HS6.out]
          have hc7 := HC7.out
          rw [Nat.add_assoc] at hc7
          simp only
          exact ⟨⟨_, rfl, by rw [hbl]; exact HO7.out⟩, hc7⟩
  · have hx1 : (x == 0) = false := beq_eq_false_iff_ne.2 hx
    have hr : readS (bs.drop p) = .error x := by
      have ho := HO.out
      cases hr : readS (bs.drop p) with
      | error e => rw [hr] at ho; rw [show x = e from ho]
      | ok vk => obtain ⟨v, m, k⟩ := vk; rw [hr] at ho; exact absurd ho.2.2 hx
    have hs : textReadS (bs.drop p) = .error x := by unfold textReadS; rw [hr]
    have hc3 := HC3.out
    rw [hr] at hc3
    obtain ⟨BZ3, F4⟩ := set2 BZ2 (.int .i64 0) (.slice none 0 0)
    have HC4 := Lib.hid (CurAt.step (K' := K) hc3 F4 (fun k hk e => .inr (by have := HZ.out; omega)) (fun _ h => .inl (.inl h)))
    have HF4 := Lib.hid (HF3.out.trans' F4 (fun i hi e => by have := HZ.out; omega))
    have HS := Lib.hid hs
    have n0 := BZ3.cell 0
    have n1 := BZ3.cell 1
    simp at n0 n1
    have hxn := Lib.hid hx
    clear hr hs hc3 F4 BZ3 BZ2 BP2 BY2 BT2 BG HC3 HF3 hx
    go_wp2_with fail
    refine bodyPost_ret (v := .tuple #[.agg #[.int .i64 0, .slice none 0 0], .int .i64 x]) (by simp [results, Tryz.results94, go_sem, n0, n1]) rfl ⟨?_, HF4.out⟩
    unfold TextOut
    rw [HS.out]
    exact ⟨rfl, hxn.out, HC4.out⟩
end Go.Proofs.YtgffhiopbnkjbaaGreatDoor

namespace Go.Q
open Go Go.RowKit
def blankB (n : Int) : Bool := decide (n = 32 ∨ (9 ≤ n ∧ n ≤ 13))
def smallS (n : Int) : Int := if 65 ≤ n ∧ n ≤ 90 then n + 32 else n
/-- A sign more: what is out, is a blank due? -/
def foldStep (s : List Int × Bool) (n : Int) : List Int × Bool :=
  if blankB n = true then (s.1, decide (0 < s.1.length)) else ((if s.2 = true then s.1 ++ [32] else s.1) ++ [smallS n], false)
def foldS (l : List Int) : List Int := (l.foldl foldStep ([], false)).1
/-- What the closure leaves. -/
def FoldAt (w : World) (g d base : Nat) (s : List Int × Bool) : Prop :=
  ∃ v, Blk w g 22 #[v] ∧ Blk w d 4 #[.bool s.2] ∧ w.ownsRow base 3 1 v s.1.length (intCells s.1) ∧ (∀ k, v.ownBlock = some k → k ≠ g ∧ k ≠ d)
end Go.Q
namespace Go.Proofs.YtgffhiopbnkjbaaGreatDoor
open Go Go.RowKit Go.Q

theorem blank_any (n : Int) (w : World) :
    Calls Tryz.prog 235 #[.int .i64 n] w fun e w' => e = .returned (.bool (blankB n)) ∧ w = w' := by
  have hc : n = 32 ∨ (n ≠ 32 ∧ n < 9) ∨ (9 ≤ n ∧ n ≤ 13) ∨ (n ≠ 32 ∧ 13 < n) := by omega
  rcases hc with rfl | ⟨h1, h2⟩ | ⟨h1, h2⟩ | ⟨h1, h2⟩
  · go_enter Tryz.func235, Tryz.ntmps235
    go_wp2_with fail
    go_ret
    exact ⟨rfl, rfl⟩
  · have hb : blankB n = false := decide_eq_false (by omega)
    have HB := Lib.hid hb
    have q1 : (n == 32) = false := beq_eq_false_iff_ne.2 h1
    have q2 : ¬ (9 : Int) ≤ n := by omega
    clear hb
    go_enter Tryz.func235, Tryz.ntmps235
    go_wp2_with fail
    go_ret
    exact ⟨by rw [HB.out]; rfl, rfl⟩
  · have hb : blankB n = true := decide_eq_true (by omega)
    have HB := Lib.hid hb
    have q1 : (n == 32) = false := beq_eq_false_iff_ne.2 (by omega)
    clear hb
    go_enter Tryz.func235, Tryz.ntmps235
    go_wp2_with fail
    go_ret
    exact ⟨by rw [HB.out]; rfl, rfl⟩
  · have hb : blankB n = false := decide_eq_false (by omega)
    have HB := Lib.hid hb
    have q1 : (n == 32) = false := beq_eq_false_iff_ne.2 h1
    have q2 : (9 : Int) ≤ n := by omega
    have q3 : ¬ n ≤ (13 : Int) := by omega
    clear hb
    go_enter Tryz.func235, Tryz.ntmps235
    go_wp2_with fail
    go_ret
    exact ⟨by rw [HB.out]; rfl, rfl⟩

theorem small_any (n : Int) (w : World) :
    Calls Tryz.prog 236 #[.int .i64 n] w fun e w' => e = .returned (.int .i64 (smallS n)) ∧ w = w' := by
  by_cases h1 : (65 : Int) ≤ n
  · by_cases h2 : n ≤ (90 : Int)
    · have hb : smallS n = n + 32 := if_pos ⟨h1, h2⟩
      have HB := Lib.hid hb
      clear hb
      go_enter Tryz.func236, Tryz.ntmps236
      go_wp2_with fail
      go_ret
      exact ⟨by rw [HB.out]; rfl, rfl⟩
    · have hb : smallS n = n := if_neg (by omega)
      have HB := Lib.hid hb
      clear hb
      go_enter Tryz.func236, Tryz.ntmps236
      go_wp2_with fail
      go_ret
      exact ⟨by rw [HB.out]; rfl, rfl⟩
  · have hb : smallS n = n := if_neg (by omega)
    have HB := Lib.hid hb
    clear hb
    go_enter Tryz.func236, Tryz.ntmps236
    go_wp2_with fail
    go_ret
    exact ⟨by rw [HB.out]; rfl, rfl⟩

set_option maxRecDepth 20000 in
set_option maxHeartbeats 1000000 in
theorem foldPut_any {w : World} {base : Nat} (n : Int) (g d : Nat) (s : List Int × Bool) (hgd : g ≠ d) (h : FoldAt w g d base s) (hb : base ≤ w.heap.size) (hm : s.1.length ≤ 10995116277) :
    Calls Tryz.prog 234 #[.int .i64 n, pt g, pt d] w fun e w' => e = .returned (.tuple #[]) ∧ FoldAt w' g d base (foldStep s n) ∧ Fr (fun k => k = g ∨ k = d ∨ base ≤ k) w w' := by
  obtain ⟨xs, due⟩ := s
  obtain ⟨v, BG, BD, hown, ho⟩ := h
  simp only at BG BD hown hm
  obtain ⟨a, m, c, rfl, rfl⟩ := own_shape hown
  have HOWN := Lib.hid hown
  have hbase := (Vals.of_own hown).2
  have HBA := Lib.hid hbase
  have g0 := BG.cell 0
  have g1 := BG.frozen 0
  have d0 := BD.cell 0
  have d1 := BD.frozen 0
  simp at g0 d0
  cases hbl : blankB n with
  | true =>
    have HB := Lib.hid (blank_any n w)
    rw [hbl] at HB
    have hst : foldStep (xs, due) n = (xs, decide (0 < xs.length)) := by unfold foldStep; rw [hbl]; rfl
    have HST := Lib.hid hst
    clear hst hown hbase hbl
    have hd : ∀ z : Bool, decide (0 < xs.length) = z → FoldAt (w.setCell ⟨d, 0, none⟩ (.bool z)) g d base (foldStep (xs, due) n) ∧ Fr (fun k => k = g ∨ k = d ∨ base ≤ k) w (w.setCell ⟨d, 0, none⟩ (.bool z)) := by
      intro z hz
      have F : Fr (fun k => k = d) w (w.setCell ⟨d, 0, none⟩ (.bool z)) := Fr.setCell (S := fun k => k = d) (p := ⟨d, 0, none⟩) (Fr.refl w) (fun _ => rfl) _
      have BD2 := BD.set 0 (.bool z)
      simp at BD2
      rw [HST.out, hz]
      exact ⟨⟨_, BG.fr F hgd, BD2, ownsRow_fr HOWN.out F (fun k hk e => (ho k hk).2 e), ho⟩, F.mono (fun _ _ h => .inr (.inl h))⟩
    have HD := Lib.hid hd
    clear hd
    go_enter Tryz.func234, Tryz.ntmps234
    go_wp2_with fail
    refine HB.out.mono ?_
    rintro e w' ⟨rfl, rfl⟩
    go_wp2_with fail
    refine bodyPost_ret (results_none rfl _ _ _) rfl ?_
    exact ⟨rfl, HD.out _ rfl⟩
  | false =>
    have HB := Lib.hid (blank_any n w)
    rw [hbl] at HB
    -- the end: a sign is appended
    have last : ∀ (w3 : World) (v3 : Value) (m3 : Nat) (ys : List Int), Blk w3 g 22 #[v3] → Blk w3 d 4 #[.bool false] → w3.ownsRow base 3 1 v3 m3 (intCells ys) → (∀ k, v3.ownBlock = some k → k ≠ g ∧ k ≠ d) → base ≤ w3.heap.size → m3 ≤ 10995116278 → Fr (fun k => k = g ∨ k = d ∨ base ≤ k) w w3 → foldStep (xs, due) n = (ys ++ [smallS n], false) →
        ∃ a c w', (Builtin.append_ #[22, 22] 22 #[v3, .slice (some ⟨w3.heap.size, 0, none⟩) 1 1]).run Tryz.prog ((w3.alloc (.cells #[.int .i64 (smallS n)] 3)).drew) = .ok (.slice a (m3 + 1) c) w' ∧ Blk w' g 22 #[v3] ∧ FoldAt (w'.setCell ⟨g, 0, none⟩ (.slice a (m3 + 1) c)) g d base (foldStep (xs, due) n) ∧ Fr (fun k => k = g ∨ k = d ∨ base ≤ k) w (w'.setCell ⟨g, 0, none⟩ (.slice a (m3 + 1) c)) := by
      intro w3 v3 m3 ys BG3 BD3 own3 ho3 hb3 hm3 F3 hst
      have F4 : Fr (fun _ => False) w3 ((w3.alloc (.cells #[.int .i64 (smallS n)] 3)).drew) := ((Fr.refl w3).alloc _).drew
      obtain ⟨a, c, w', hrun, own', F5, hk5⟩ := add_int own3 hb3 (by omega) (smallS n) w3.heap.size F4 (Blk.new w3 3 #[.int .i64 (smallS n)]).drew
      have BG5 := BG3.fr F5 (fun e => (ho3 g e).1 rfl)
      have BD5 := BD3.fr F5 (fun e => (ho3 d e).2 rfl)
      have lg := BG3.lt
      have ld := BD3.lt
      have hne : ∀ k, (Value.slice a (m3 + 1) c).ownBlock = some k → k ≠ g ∧ k ≠ d := fun k hk => by
        rcases hk5 k hk with h | h
        · exact ho3 k h
        · exact ⟨by omega, by omega⟩
      have F6 : Fr (fun k => k = g) w' (w'.setCell ⟨g, 0, none⟩ (.slice a (m3 + 1) c)) := Fr.setCell (S := fun k => k = g) (p := ⟨g, 0, none⟩) (Fr.refl w') (fun _ => rfl) _
      have BG6 := BG5.set 0 (.slice a (m3 + 1) c)
      simp at BG6
      have hlen : m3 + 1 = (ys ++ [smallS n]).length := by
        have := own3.1
        rw [intCells_len, Nat.mul_one] at this
        simp [this]
      refine ⟨a, c, w', hrun, BG5, ?_, (F3.trans (F5.mono (fun k hk e => ?_))).trans (F6.mono (fun _ _ h => .inl h))⟩
      · rw [hst]
        refine ⟨_, BG6, BD5.fr F6 (fun e => hgd e.symm), ?_, hne⟩
        simp only
        rw [← hlen]
        exact ownsRow_fr own' F6 (fun k hk e => (hne k hk).1 e)
      · exact .inr (.inr ((Vals.of_own own3).2 k e).1)
    have HL := Lib.hid last
    clear last
    cases due with
    | false =>
      have hst : foldStep (xs, false) n = (xs ++ [smallS n], false) := by unfold foldStep; rw [hbl]; rfl
      obtain ⟨a7, c7, w7, hrun, BG7, hfin, hF7⟩ := HL.out w _ xs.length xs BG BD HOWN.out ho hb (by omega) (Fr.refl w) hst
      have HRUN := Lib.hid hrun
      have HFIN := Lib.hid hfin
      have HF7 := Lib.hid hF7
      have g7 := BG7.cell 0
      have f7 := BG7.frozen 0
      have hal := alloc_old
      have lg := BG.lt
      simp at g7
      clear hst hrun hfin hF7 hown hbase hbl
      go_enter Tryz.func234, Tryz.ntmps234
      go_wp2_with fail
      refine HB.out.mono ?_
      rintro e w' ⟨rfl, rfl⟩
      go_wp2_with fail
      go_region_law (first | (refine step_append_run (by rfl) (.tmp 13) (.tmp 16) 22 (by rfl) _ w7 (by exact HRUN.out) ?_) | (go_simp; go_at_call 236; refine (small_any n _).mono ?_; rintro e w' ⟨rfl, rfl⟩))
      all_goals
        go_wp2_with fail
        go_end0
        exact ⟨rfl, HFIN.out, HF7.out⟩
    | true =>
      have hst : foldStep (xs, true) n = ((xs ++ [32]) ++ [smallS n], false) := by unfold foldStep; rw [hbl]; rfl
      have F1 : Fr (fun _ => False) w (w.alloc (.cells #[.int .i64 32] 3)) := (Fr.refl w).alloc _
      obtain ⟨a1, c1, w1, hrun1, own1, F2, hk1⟩ := add_int HOWN.out hb (by omega) 32 w.heap.size F1 (Blk.new w 3 #[.int .i64 32])
      have lg := BG.lt
      have ld := BD.lt
      have BG1 := BG.fr F2 (fun e => (ho g e).1 rfl)
      have BD1 := BD.fr F2 (fun e => (ho d e).2 rfl)
      have hne : ∀ k, (Value.slice a1 (xs.length + 1) c1).ownBlock = some k → k ≠ g ∧ k ≠ d := fun k hk => by
        rcases hk1 k hk with h | h
        · exact ho k h
        · exact ⟨by omega, by omega⟩
      have F3 : Fr (fun k => k = g ∨ k = d) w1 ((w1.setCell ⟨g, 0, none⟩ (.slice a1 (xs.length + 1) c1)).setCell ⟨d, 0, none⟩ (.bool false)) := ((Fr.refl w1).setCell (p := ⟨g, 0, none⟩) (fun _ => .inl rfl) _).setCell (p := ⟨d, 0, none⟩) (fun _ => .inr rfl) _
      have BG3 := (BG1.set 0 (.slice a1 (xs.length + 1) c1)).set_other (a := ⟨d, 0, none⟩) hgd (.bool false)
      have BD3 := (BD1.set_other (a := ⟨g, 0, none⟩) (fun e => hgd e.symm) (.slice a1 (xs.length + 1) c1)).set 0 (.bool false)
      simp at BG3 BD3
      have own3 := ownsRow_fr own1 F3 (fun k hk e => by have := hne k hk; omega)
      have G3 : Fr (fun k => k = g ∨ k = d ∨ base ≤ k) w ((w1.setCell ⟨g, 0, none⟩ (.slice a1 (xs.length + 1) c1)).setCell ⟨d, 0, none⟩ (.bool false)) := (F2.mono (fun k hk e => .inr (.inr (HBA.out k e).1))).trans (F3.mono (fun k _ h => h.elim .inl (fun h => .inr (.inl h))))
      obtain ⟨a7, c7, w7, hrun, BG7, hfin, hF7⟩ := HL.out _ _ (xs.length + 1) (xs ++ [32]) BG3 BD3 own3 hne (Nat.le_trans hb G3.size) (by omega) G3 hst
      have HRUN1 := Lib.hid hrun1
      have HRUN := Lib.hid hrun
      have HFIN := Lib.hid hfin
      have HF7 := Lib.hid hF7
      have HBG3 := Lib.hid BG3
      have p0 := BG1.cell 0
      have p1 := BG1.frozen 0
      have r0 := BD1.cell 0
      have r1 := BD1.frozen 0
      have g7 := BG7.cell 0
      have f7 := BG7.frozen 0
      simp at g7 p0 r0
      clear hst hrun hrun1 hfin hF7 hown hbase hbl own1 own3 BG3 BD3 F3 G3 F2 F1 BG1 BD1 hk1 hne
      go_enter Tryz.func234, Tryz.ntmps234
      go_wp2_with fail
      refine HB.out.mono ?_
      rintro e w' ⟨rfl, rfl⟩
      have hgd' : d ≠ g := fun e => hgd e.symm
      go_upto_region 5 with (at_builtin; refine wpList_append_run (by rfl) (.tmp 10) (.tmp 11) 22 (by rfl) _ w1 (by exact HRUN1.out) ?_)
      generalize ((w1.setCell ⟨g, 0, none⟩ (.slice a1 (xs.length + 1) c1)).setCell ⟨d, 0, none⟩ (.bool false)) = w3 at *
      have g3 := HBG3.out.cell 0
      have hal := alloc_old
      have lg3 := HBG3.out.lt
      simp at g3
      go_region_law (first | (refine step_append_run (by rfl) (.tmp 13) (.tmp 16) 22 (by rfl) _ w7 (by exact HRUN.out) ?_) | (go_simp; go_at_call 236; refine (small_any n _).mono ?_; rintro e w' ⟨rfl, rfl⟩))
      all_goals
        go_wp2_with fail
        go_end0
        exact ⟨rfl, HFIN.out, HF7.out⟩
end Go.Proofs.YtgffhiopbnkjbaaGreatDoor

namespace Go.Q
open Go Go.RowKit
def foldAcc (l : List Int) : List Int × Bool := l.foldl foldStep ([], false)
theorem foldAcc_take {l : List Int} {j : Nat} {n : Int} (h : l[j]? = some n) : foldAcc (l.take (j + 1)) = foldStep (foldAcc (l.take j)) n := by
  unfold foldAcc
  rw [List.take_add_one, h]
  simp [List.foldl_append]
theorem foldStep_len (s : List Int × Bool) (n : Int) : (foldStep s n).1.length ≤ s.1.length + 2 := by
  unfold foldStep
  split
  · simp
  · split <;> simp
theorem foldAcc_len (l : List Int) : (foldAcc l).1.length ≤ 2 * l.length := by
  have : ∀ (l : List Int) (s : List Int × Bool), (l.foldl foldStep s).1.length ≤ s.1.length + 2 * l.length := by
    intro l
    induction l with
    | nil => intro s; simp
    | cons n l ih =>
      intro s
      have h1 := ih (foldStep s n)
      have h2 := foldStep_len s n
      simp only [List.foldl_cons, List.length_cons]
      omega
  have h := this l ([], false)
  simpa [foldAcc] using h
end Go.Q
namespace Go.Proofs.YtgffhiopbnkjbaaGreatDoor
open Go Go.RowKit Go.Q

set_option maxRecDepth 20000 in
set_option maxHeartbeats 1000000 in
theorem foldSigns_any (v : Value) (l : List Int) (w : World) (h : Ints w v l) (hl : l.length ≤ 1099511627) :
    Calls Tryz.prog 185 #[v] w fun e w' => (∃ u, e = .returned u ∧ w'.ownsRow w.heap.size 3 1 u (foldS l).length (intCells (foldS l))) ∧ Fr (fun _ => False) w w' := by
  have H := Lib.hid h
  obtain ⟨a, cap, rfl, -⟩ := Ints.form h
  obtain ⟨z, hz⟩ : ∃ z, z = w.heap.size := ⟨_, rfl⟩
  have HZ := Lib.hid hz
  have F0 : Fr (fun _ => False) w ((w.alloc (.cells #[.slice none 0 0] 22)).alloc (.cells #[.bool false] 4)) := ((Fr.refl w).alloc _).alloc _
  have BG0 := (Blk.new w 22 #[.slice none 0 0]).alloc (.cells #[.bool false] 4)
  have BD0 := Blk.new (w.alloc (.cells #[.slice none 0 0] 22)) 4 #[.bool false]
  have hs0 : ((w.alloc (.cells #[.slice none 0 0] 22)).alloc (.cells #[.bool false] 4)).heap.size = z + 2 := by rw [World.size_alloc, World.size_alloc, hz]
  rw [World.size_alloc, ← hz] at BD0
  rw [← hz] at BG0
  have A0 : FoldAt ((w.alloc (.cells #[.slice none 0 0] 22)).alloc (.cells #[.bool false] 4)) z (z + 1) (z + 2) ([], false) := ⟨_, BG0, BD0, ⟨rfl, .inl ⟨rfl, rfl⟩⟩, fun k hk => by simp [Value.ownBlock] at hk⟩
  have HA0 := Lib.hid A0
  have HF0 := Lib.hid F0
  have HS0 := Lib.hid hs0
  clear h hz F0 BG0 BD0 A0 hs0
  go_enter Tryz.func185, Tryz.ntmps185
  go_upto_region 4 with fail
  rw [← HZ.out]
  generalize ((w.alloc (.cells #[.slice none 0 0] 22)).alloc (.cells #[.bool false] 4)) = w1 at *
  go_wp2_with fail
  go_loopg [11] l.length (fun g i wr => ∃ j : Nat, g = l.length - j ∧ j ≤ l.length ∧ i = .int .i64 j ∧ FoldAt wr z (z + 1) (z + 2) (foldAcc (l.take j)) ∧ Fr (fun _ => False) w wr ∧ z + 2 ≤ wr.heap.size)
  case atStart => exact ⟨0, rfl, Nat.zero_le _, rfl, HA0.out, HF0.out, by have := HS0.out; omega⟩
  case round =>
    obtain ⟨j, hg, hj, rfl, hA, F, hsz⟩ := hrel
    have HG := Lib.hid hg
    have HA := Lib.hid hA
    have HF := Lib.hid F
    clear hg hA F
    by_cases hjl : j < l.length
    · obtain ⟨a0, cap0, he, _, _, hx⟩ := Ints.form (H.out.old HF.out)
      simp only [Value.slice.injEq, true_and] at he
      obtain ⟨rfl, rfl⟩ := he
      obtain ⟨b, off, rfl, hy⟩ := hx (by omega)
      obtain ⟨n, hn⟩ : ∃ n, l[j]? = some n := ⟨_, List.getElem?_eq_getElem hjl⟩
      have e1 := hy j n hn
      have hft := foldAcc_take hn
      have HFT := Lib.hid hft
      have r1 : (0 : Int) ≤ (j : Int) := by omega
      have r2 : (j : Int) < (l.length : Int) := by omega
      have hlen := foldAcc_len (l.take j)
      rw [List.length_take] at hlen
      have HP := Lib.hid (foldPut_any n z (z + 1) _ (by omega) HA.out hsz (by omega))
      clear hx hy hn hft hlen
      go_wp2_with fail
      refine HP.out.mono ?_
      rintro e w2 ⟨rfl, hA2, F2⟩
      rw [← HFT.out] at hA2
      have HA2 := Lib.hid hA2
      have HF2 := Lib.hid (HF.out.trans' F2 (fun i hi e => by have := HZ.out; omega))
      have hs2 := F2.size
      clear hA2 F2
      go_wp2_with fail
      go_roundg (l.length - (j + 1))
      case measure => rw [HG.out]; omega
      case rel => exact ⟨j + 1, rfl, by omega, by go_num, HA2.out, HF2.out, by omega⟩
    · have hall : l.take j = l := List.take_of_length_le (by omega)
      obtain ⟨u, BG, _, hown, _⟩ := HA.out
      rw [hall] at hown
      have hown := own_le hown (base' := w.heap.size) (by have := HZ.out; omega)
      have HO := Lib.hid hown
      have g0 := BG.cell 0
      simp at g0
      clear hown hall
      go_wp2_with fail
      go_ret
      exact ⟨⟨_, rfl, HO.out⟩, HF.out⟩
end Go.Proofs.YtgffhiopbnkjbaaGreatDoor

namespace Go.Q
open Go Go.RowKit
theorem may12 {k n : Int} (h : mayS k n = true) : mayS 12 n = true := by
  unfold mayS at h ⊢
  rw [if_pos rfl]
  have hs : surr n = decide (55296 ≤ n ∧ n ≤ 57343) := rfl
  split at h
  · exact h
  split at h
  · rw [Bool.and_eq_true] at h
    have h1 := of_decide_eq_true h.1
    rw [hs, decide_eq_true (by omega), decide_eq_false (by omega)]
    rfl
  split at h
  · have h1 := of_decide_eq_true h
    rw [hs, decide_eq_true (by omega), decide_eq_false (by omega)]
    rfl
  split at h
  · have h1 := of_decide_eq_true h
    rw [hs, decide_eq_true (by omega), decide_eq_false (by omega)]
    rfl
  split at h
  · have h1 := of_decide_eq_true h
    rw [hs, decide_eq_true (by omega), decide_eq_false (by omega)]
    rfl
  split at h
  · rw [Bool.and_eq_true] at h
    have h1 := of_decide_eq_true h.1
    rw [h.2, decide_eq_true (by omega)]
    rfl
  · cases h
theorem right_all {k : Int} {b : List UInt8} (h : rightS k b = true) : ∀ n ∈ signsS k b, mayS k n = true := by
  unfold rightS at h
  rw [Bool.and_eq_true] at h
  exact List.all_eq_true.1 h.2
/-- A text as UTF-8. -/
def utf8S (k : Int) (b : List UInt8) : List UInt8 := ofS 12 (signsS k b)
/-- A text's key. -/
def foldKeyS (k : Int) (b : List UInt8) : List UInt8 := ofS 12 (foldS (signsS k b))
theorem small_may {n : Int} (h : mayS 12 n = true) : mayS 12 (smallS n) = true := by
  unfold smallS
  split
  · unfold mayS surr
    rw [if_pos rfl, decide_eq_true (by omega), decide_eq_false (by omega)]
    rfl
  · exact h
theorem fold_may {l : List Int} (h : ∀ n ∈ l, mayS 12 n = true) : ∀ n ∈ foldS l, mayS 12 n = true := by
  have : ∀ (l : List Int) (s : List Int × Bool), (∀ n ∈ l, mayS 12 n = true) → (∀ n ∈ s.1, mayS 12 n = true) → ∀ n ∈ (l.foldl foldStep s).1, mayS 12 n = true := by
    intro l
    induction l with
    | nil => intro s _ h; exact h
    | cons m l ih =>
      intro s h1 h2
      refine ih (foldStep s m) (fun n hn => h1 n (List.mem_cons_of_mem _ hn)) (fun n hn => ?_)
      unfold foldStep at hn
      split at hn
      · exact h2 n hn
      · have hm := small_may (h1 m List.mem_cons_self)
        simp only [List.mem_append, List.mem_singleton] at hn
        rcases hn with hn | hn
        · split at hn
          · rcases List.mem_append.1 hn with h | h
            · exact h2 n h
            · rw [List.mem_singleton.1 h]; rfl
          · exact h2 n hn
        · rw [hn]; exact hm
  exact this l ([], false) h (by simp)
end Go.Q
namespace Go.Proofs.YtgffhiopbnkjbaaGreatDoor
open Go Go.RowKit Go.Q

set_option maxRecDepth 20000 in
set_option maxHeartbeats 1000000 in
theorem textUtf8_any (k : Int) (v : Value) (b : List UInt8) (w : World) (hv : Bytes w v b) (hT : Tabs w) (hok : rightS k b = true) (hbl : b.length ≤ 16777216) :
    Calls Tryz.prog 62 #[.agg #[.int .i64 k, v]] w fun e w' => e = .returned (.tuple #[str (utf8S k b), .int .i64 0]) ∧ Fr (fun _ => False) w w' := by
  obtain ⟨a, cap, rfl, -⟩ := hv.form
  obtain ⟨z, hz⟩ : ∃ z, z = w.heap.size := ⟨_, rfl⟩
  have F0 : Fr (fun _ => False) w (w.alloc (.cells #[.int .i64 k, .slice a b.length cap] 107)) := (Fr.refl w).alloc _
  have B0 := Blk.new w 107 #[.int .i64 k, .slice a b.length cap]
  rw [← hz] at B0
  have HS := Lib.hid (signsText_any k _ b _ (hv.old F0) (hT.old F0) (by omega) hok)
  have hm := Lib.hid (fun n hn => may12 (right_all hok n hn))
  have hl := signsS_len k b
  have HZ := Lib.hid hz
  have HF0 := Lib.hid F0
  have hu : utf8S k b = ofS 12 (signsS k b) := rfl
  have HU := Lib.hid hu
  clear F0 hz hok hv hT hu
  generalize signsS k b = sg at *
  go_enter Tryz.func62, Tryz.ntmps62
  go_upto_region 1 with fail
  rw [← HZ.out]
  generalize (w.alloc (.cells #[.int .i64 k, .slice a b.length cap] 107)) = w1 at *
  have t0 := B0.cell 0
  have t1 := B0.cell 1
  simp at t0 t1
  go_wp2_with fail
  refine HS.out.mono ?_
  rintro e w2 ⟨⟨u2, rfl, ho2⟩, F2⟩
  have hi2 := (Vals.of_own ho2).1
  obtain ⟨a2, m2, c2, rfl, rfl⟩ := own_shape ho2
  have HO := Lib.hid (ofText_any 12 _ sg w2 hi2 rfl hm.out (by omega))
  have HF2 := Lib.hid (HF0.out.trans F2)
  clear HS HF0 F2 ho2 t0 t1 B0 hi2
  go_wp2_with fail
  refine HO.out.mono ?_
  rintro e w3 ⟨⟨u3, rfl, ho3⟩, F3⟩
  have hb3 := (Vals.of_own ho3).1
  obtain ⟨a3, m3, c3, rfl, rfl⟩ := own_shape ho3
  have hs3 : ∀ o, (Go.convert 23 9 (.slice a3 (ofS 12 sg).length c3)).run Tryz.prog (w3.alloc o) = .ok (str (ofS 12 sg)) (w3.alloc o) := fun o => str_of (hb3.old ((Fr.refl w3).alloc o))
  have HF3 := Lib.hid ((HF2.out.trans F3).alloc (.cells #[.int .i64 12, .slice a3 (ofS 12 sg).length c3] 107))
  clear HO HF2 F3 ho3 hb3
  go_wp2_with fail
  refine bodyPost_ret (v := .tuple #[str (ofS 12 sg), .int .i64 0]) (by simp [results, Tryz.results62, go_sem]) rfl ⟨by rw [HU.out], HF3.out⟩

set_option maxRecDepth 20000 in
set_option maxHeartbeats 1000000 in
theorem foldKey_any (k : Int) (v : Value) (b : List UInt8) (w : World) (hv : Bytes w v b) (hT : Tabs w) (hok : rightS k b = true) (hbl : b.length ≤ 16777216) :
    Calls Tryz.prog 150 #[.agg #[.int .i64 k, v]] w fun e w' => e = .returned (.tuple #[str (foldKeyS k b), .int .i64 0]) ∧ Fr (fun _ => False) w w' := by
  obtain ⟨a, cap, rfl, -⟩ := hv.form
  obtain ⟨z, hz⟩ : ∃ z, z = w.heap.size := ⟨_, rfl⟩
  have F0 : Fr (fun _ => False) w (w.alloc (.cells #[.int .i64 k, .slice a b.length cap] 107)) := (Fr.refl w).alloc _
  have B0 := Blk.new w 107 #[.int .i64 k, .slice a b.length cap]
  rw [← hz] at B0
  have HS := Lib.hid (signsText_any k _ b _ (hv.old F0) (hT.old F0) (by omega) hok)
  have hm := Lib.hid (fold_may (fun n hn => may12 (right_all hok n hn)))
  have hl := signsS_len k b
  have HZ := Lib.hid hz
  have HF0 := Lib.hid F0
  have hu : foldKeyS k b = ofS 12 (foldS (signsS k b)) := rfl
  have HU := Lib.hid hu
  clear F0 hz hok hv hT hu
  generalize signsS k b = sg at *
  have hfl : (foldS sg).length ≤ 2 * sg.length := foldAcc_len sg
  go_enter Tryz.func150, Tryz.ntmps150
  go_upto_region 1 with fail
  rw [← HZ.out]
  generalize (w.alloc (.cells #[.int .i64 k, .slice a b.length cap] 107)) = w1 at *
  have t0 := B0.cell 0
  have t1 := B0.cell 1
  simp at t0 t1
  go_wp2_with fail
  refine HS.out.mono ?_
  rintro e w2 ⟨⟨u2, rfl, ho2⟩, F2⟩
  have hi2 := (Vals.of_own ho2).1
  obtain ⟨a2, m2, c2, rfl, rfl⟩ := own_shape ho2
  have HG := Lib.hid (foldSigns_any _ sg w2 hi2 (by omega))
  have HF2 := Lib.hid (HF0.out.trans F2)
  clear HS HF0 F2 ho2 t0 t1 B0 hi2
  go_wp2_with fail
  refine HG.out.mono ?_
  rintro e w4 ⟨⟨u4, rfl, ho4⟩, F4⟩
  have hi4 := (Vals.of_own ho4).1
  obtain ⟨a4, m4, c4, rfl, rfl⟩ := own_shape ho4
  have HO := Lib.hid (ofText_any 12 _ (foldS sg) w4 hi4 rfl hm.out (by omega))
  have HF4 := Lib.hid (HF2.out.trans F4)
  clear HG HF2 F4 ho4 hi4
  generalize foldS sg = fs at *
  go_wp2_with fail
  refine HO.out.mono ?_
  rintro e w3 ⟨⟨u3, rfl, ho3⟩, F3⟩
  have hb3 := (Vals.of_own ho3).1
  obtain ⟨a3, m3, c3, rfl, rfl⟩ := own_shape ho3
  have hs3 : ∀ o, (Go.convert 23 9 (.slice a3 (ofS 12 fs).length c3)).run Tryz.prog (w3.alloc o) = .ok (str (ofS 12 fs)) (w3.alloc o) := fun o => str_of (hb3.old ((Fr.refl w3).alloc o))
  have HF3 := Lib.hid ((HF4.out.trans F3).alloc (.cells #[.int .i64 12, .slice a3 (ofS 12 fs).length c3] 107))
  clear HO HF4 F3 ho3 hb3
  go_wp2_with fail
  refine bodyPost_ret (v := .tuple #[str (ofS 12 fs), .int .i64 0]) (by simp [results, Tryz.results150, go_sem]) rfl ⟨by rw [HU.out], HF3.out⟩
end Go.Proofs.YtgffhiopbnkjbaaGreatDoor

namespace Go.Q
open Go Go.RowKit
def hexN (n : Int) : Int := if n < 10 then 48 + n else 87 + n
def hex1 (x : UInt8) : List UInt8 := [UInt8.ofNat (hexN ((x.toNat : Int) / 16)).toNat, UInt8.ofNat (hexN ((x.toNat % 16 : Nat) : Int)).toNat]
/-- Bytes as digits to the base 16. -/
def hexS (l : List UInt8) : List UInt8 := l.flatMap hex1
theorem hexS_take {l : List UInt8} {j : Nat} {x : UInt8} (h : l[j]? = some x) : hexS (l.take (j + 1)) = hexS (l.take j) ++ hex1 x := by
  unfold hexS
  rw [List.take_add_one, h]
  simp
theorem hexS_len (l : List UInt8) : (hexS l).length = 2 * l.length := by
  induction l with
  | nil => rfl
  | cons x l ih =>
    have : hexS (x :: l) = hex1 x ++ hexS l := rfl
    rw [this, List.length_append, ih]
    simp only [hex1, List.length_cons, List.length_nil]
    omega
theorem hexN_lt (n : Int) (h0 : 0 ≤ n) (h1 : n < 16) : 48 ≤ hexN n ∧ hexN n < 103 := by unfold hexN; split <;> omega
end Go.Q
namespace Go.Proofs.YtgffhiopbnkjbaaGreatDoor
open Go Go.RowKit Go.Q
theorem digit_any (n : Int) (h0 : 0 ≤ n) (h1 : n < 16) (w : World) :
    Calls Tryz.prog 186 #[.int .u8 n] w fun e w' => e = .returned (.int .u8 (hexN n)) ∧ w = w' := by
  by_cases hc : n < 10
  · have hb : hexN n = 48 + n := if_pos hc
    have HB := Lib.hid hb
    have hw : IntKind.u8.wrap (48 + n) = 48 + n := by simp [IntKind.wrap, IntKind.signed, IntKind.bits]; omega
    clear hb
    go_enter Tryz.func186, Tryz.ntmps186
    go_wp2_with fail
    go_ret
    refine ⟨?_, rfl⟩
    rw [HB.out]
    first | rfl | rw [hw]
  · have hb : hexN n = 87 + n := if_neg hc
    have HB := Lib.hid hb
    have hw : IntKind.u8.wrap (97 + n) = 97 + n := by simp [IntKind.wrap, IntKind.signed, IntKind.bits]; omega
    have hw2 : IntKind.u8.wrap (97 + n - 10) = 87 + n := by simp [IntKind.wrap, IntKind.signed, IntKind.bits]; omega
    clear hb
    go_enter Tryz.func186, Tryz.ntmps186
    go_wp2_with fail
    go_ret
    refine ⟨?_, rfl⟩
    rw [HB.out]
    first | rfl | (rw [hw, hw2])

set_option maxRecDepth 20000 in
set_option maxHeartbeats 1000000 in
theorem hex_any (v : Value) (l : List UInt8) (w : World) (h : Bytes w v l) (hl : l.length ≤ 109951162) :
    Calls Tryz.prog 151 #[v] w fun e w' => e = .returned (str (hexS l)) ∧ Fr (fun _ => False) w w' := by
  have H := Lib.hid h
  obtain ⟨a, cap, rfl, -⟩ := h.form
  obtain ⟨i0, hi0, hz0, hz1, hz2⟩ := info_parts info5
  have hmk := run_make (P := Tryz.prog) w 23 5 i0 _ Tryz.underlying23 hi0 hz0 .i64 .i64 0 (2 * (l.length : Int)) (by omega) (by omega) (by rw [hz2]; omega) (by omega)
  have hm2 : (2 * (l.length : Int)).toNat = 2 * l.length := by omega
  rw [hm2, hz1, Nat.mul_one] at hmk
  have hms : (madeCells (Value.int .u8 0).cells (2 * l.length)).size = 2 * l.length := by simp [madeCells]
  have B0 := Blk.new w 5 (madeCells (Value.int .u8 0).cells (2 * l.length))
  have own0 := own_block B0 0 (Nat.zero_le _) (by rw [hms]; unfold maxLen; omega) w.heap.size (Nat.le_refl _)
  rw [hms, List.take_zero] at own0
  have F0 : Fr (fun _ => False) w (w.alloc (.cells (madeCells (Value.int .u8 0).cells (2 * l.length)) 5)) := (Fr.refl w).alloc _
  have HO := Lib.hid own0
  have HF := Lib.hid F0
  generalize hwg : (w.alloc (.cells (madeCells (Value.int .u8 0).cells (2 * l.length)) 5)) = w1 at *
  have HM := Lib.hid hmk
  clear h hi0 hz0 hz1 hz2 hm2 hms B0 own0 F0 hwg hmk
  have hmk := HM.out
  go_enter Tryz.func151, Tryz.ntmps151
  go_wp2_with fail
  go_loopg [3, 12] l.length (fun g u i wr => ∃ (j : Nat) (au : Option Addr) (cu : Nat), g = l.length - j ∧ j ≤ l.length ∧ u = .slice au (2 * j) cu ∧ i = .int .i64 j ∧ wr.ownsRow w.heap.size 5 1 (.slice au (2 * j) cu) (2 * j) (Lib.byteCells (hexS (l.take j))) ∧ Fr (fun _ => False) w wr)
  case atStart => exact ⟨0, _, _, rfl, Nat.zero_le _, rfl, rfl, HO.out, HF.out⟩
  case round =>
    obtain ⟨j, au, cu, hg, hj, rfl, rfl, hown, F⟩ := hrel
    have HG := Lib.hid hg
    clear hg
    by_cases hjl : j < l.length
    · obtain ⟨a0, cap0, he, _, _, hx⟩ := (H.out.old F).form
      simp only [Value.slice.injEq, true_and] at he
      obtain ⟨rfl, rfl⟩ := he
      obtain ⟨b, off, rfl, hy⟩ := hx (by omega)
      obtain ⟨x, hn⟩ : ∃ n, l[j]? = some n := ⟨_, List.getElem?_eq_getElem hjl⟩
      have e1 := hy j x hn
      have HFT := Lib.hid (hexS_take hn)
      have hxl := x.toNat_lt
      have h15 := and15 x
      have hx1 : hex1 x = [UInt8.ofNat (hexN ((x.toNat : Int) / 16)).toNat, UInt8.ofNat (hexN ((x.toNat % 16 : Nat) : Int)).toNat] := rfl
      obtain ⟨y, hye⟩ : ∃ y : Nat, y = x.toNat := ⟨_, rfl⟩
      rw [← hye] at e1 hxl h15 hx1
      obtain ⟨r, hr⟩ : ∃ r : Nat, r = y % 16 := ⟨_, rfl⟩
      rw [← hr] at h15 hx1
      have hyl : y < 256 := hxl
      have hrl : r < 16 := by omega
      have b1 := hexN_lt ((y : Int) / 16) (by omega) (by omega)
      have b2 := hexN_lt (r : Int) (by omega) (by omega)
      have F1 : Fr (fun _ => False) wr (wr.alloc (.cells #[.int .u8 (hexN ((y : Int) / 16)), .int .u8 (hexN (r : Int))] 5)) := (Fr.refl wr).alloc _
      have hsrc : Bytes (wr.alloc (.cells #[.int .u8 (hexN ((y : Int) / 16)), .int .u8 (hexN (r : Int))] 5)) (.slice (some ⟨wr.heap.size, 0, none⟩) 2 2) (hex1 x) := by
        have h := Vals.of_block (Blk.new wr 5 #[.int .u8 (hexN ((y : Int) / 16)), .int .u8 (hexN (r : Int))]) (by unfold maxLen; simp)
        have e : Lib.byteCells (hex1 x) = [.int .u8 (hexN ((y : Int) / 16)), .int .u8 (hexN (r : Int))] := by
          rw [hx1]
          simp only [Lib.byteCells, List.map_cons, List.map_nil, u8 (hexN ((y : Int) / 16)).toNat (by omega), u8 (hexN (r : Int)).toNat (by omega)]
          rw [Int.toNat_of_nonneg (by omega), Int.toNat_of_nonneg (by omega)]
        show Vals _ _ (Lib.byteCells (hex1 x))
        rw [e]
        exact h
      obtain ⟨v', w2, hrun, h1, F2, _⟩ := append_bytes (ownsRow_fr hown F1 (fun _ _ h => h)) (some ⟨wr.heap.size, 0, none⟩) 2 2 (hex1 x) hsrc (by omega) (Nat.le_trans F.size F1.size)
      obtain ⟨a', m', c', rfl, rfl⟩ := own_shape h1
      have hbk := (Vals.of_own hown).2
      have HF2 := Lib.hid ((F.trans F1).trans' F2 (fun i hi e => by have := (hbk i e).1; omega))
      have HRUN := Lib.hid hrun
      have HOWN := Lib.hid h1
      have r1 : (0 : Int) ≤ (j : Int) := by omega
      have r2 : (j : Int) < (l.length : Int) := by omega
      clear hx hy hn hown F F1 F2 hsrc hrun h1 hbk hx1 hye hr hxl
      go_wp2_with (first | (go_at_call 186; refine (digit_any _ (by omega) (by omega) _).mono ?_; rintro e w' ⟨rfl, rfl⟩) | (at_builtin; refine wpList_append_run (by rfl) (.tmp 16) (.tmp 23) 23 (by rfl) _ w2 (by exact HRUN.out) ?_))
      go_roundg (l.length - (j + 1))
      case measure => rw [HG.out]; omega
      case rel => exact ⟨j + 1, a', c', rfl, by omega, rfl, by go_num, by rw [HFT.out]; exact HOWN.out, HF2.out⟩
    · have hall : l.take j = l := List.take_of_length_le (by omega)
      rw [hall] at hown
      have hs := Lib.hid (str_of (Vals.of_own hown).1)
      clear hown hall
      have hs1 := hs.out
      go_wp2_with fail
      go_ret
      exact ⟨rfl, F⟩
end Go.Proofs.YtgffhiopbnkjbaaGreatDoor

namespace Go.Q
open Go Go.RowKit
/-- What a part means. -/
def attrKeyS (o : List Int) (b : List UInt8) : List UInt8 :=
  oidTextS o ++ (match textReadS b with
    | .ok (k, t, _) => [61, 116] ++ hexS (foldKeyS k t)
    | .error _ => [61, 98] ++ hexS b)
theorem foldKey_len (k : Int) (b : List UInt8) : (foldKeyS k b).length ≤ 8 * b.length := by
  have h1 := ofS_le 12 (foldS (signsS k b))
  have h2 : (foldS (signsS k b)).length ≤ 2 * (signsS k b).length := foldAcc_len _
  have h3 := signsS_len k b
  unfold foldKeyS
  omega
theorem textRead_ok {l b : List UInt8} {k : Int} {n : Nat} (h : textReadS l = .ok (k, b, n)) : rightS k b = true ∧ b.length ≤ l.length := by
  unfold textReadS at h
  split at h
  · cases h
  · split at h
    · cases h
    · split at h
      · cases h
      · split at h
        · rename_i hr
          simp only [Except.ok.injEq, Prod.mk.injEq] at h
          obtain ⟨rfl, rfl, -⟩ := h
          refine ⟨hr, ?_⟩
          rw [List.length_take, List.length_drop]
          omega
        · cases h
end Go.Q
namespace Go.Proofs.YtgffhiopbnkjbaaGreatDoor
open Go Go.RowKit Go.Q

/-- What words gives. -/
def WordsOut (w' : World) (l : List UInt8) (e : Ending) : Prop :=
  match textReadS l with
  | .error _ => e = .returned (.tuple #[.agg #[.int .i64 0, .slice none 0 0], .bool false])
  | .ok (k, b, _) => ∃ u, e = .returned (.tuple #[.agg #[.int .i64 k, u], .bool true]) ∧ Bytes w' u b

set_option maxRecDepth 20000 in
set_option maxHeartbeats 1000000 in
theorem words_any (v : Value) (l : List UInt8) (w : World) (h : Bytes w v l) (hE : Env w) (hl : l.length ≤ 1099511627776) :
    Calls Tryz.prog 61 #[v] w fun e w' => WordsOut w' l e ∧ Fr (fun _ => False) w w' := by
  obtain ⟨z, hz⟩ : ∃ z, z = w.heap.size := ⟨_, rfl⟩
  have F0 : Fr (fun _ => False) w (w.alloc (.cells #[.int .i64 0, .slice none 0 0] 107)) := (Fr.refl w).alloc _
  have BZ := Blk.new w 107 #[.int .i64 0, .slice none 0 0]
  rw [← hz] at BZ
  have HN := Lib.hid (new_any _ v l (h.old F0) hl)
  have HE := Lib.hid (hE.old F0)
  have HZ := Lib.hid hz
  have HF0 := Lib.hid F0
  have hgl := hE.size
  clear h hE hz F0
  go_enter Tryz.func61, Tryz.ntmps61
  go_upto_region 1 with fail
  rw [← HZ.out]
  generalize (w.alloc (.cells #[.int .i64 0, .slice none 0 0] 107)) = w1 at *
  go_wp2_with fail
  refine HN.out.mono ?_
  rintro e w2 ⟨rfl, C2, F2⟩
  have BZ2 := BZ.fr F2 (fun h => h)
  have HE2 := HE.out.old F2
  have hs1 := HF0.out.size
  have hzl := BZ.lt
  obtain ⟨c, hc⟩ : ∃ c, c = w1.heap.size := ⟨_, rfl⟩
  rw [← hc] at C2 ⊢
  have hk1 : ¬ (1 = c ∨ 2 = c) := by
    have : gLim = gLim := rfl
    have h1 : 1 < gLim := by decide
    have h2 : 2 < gLim := by decide
    omega
  have HR := Lib.hid (textRead_any C2 HE2.tabs hk1)
  have HF2 := Lib.hid (HF0.out.trans F2)
  have hcz : z < c := by omega
  have hcw : w.heap.size ≤ c := by omega
  clear HN HF0 F2 BZ hc HE2 C2 hk1 HE
  go_wp2_with fail
  refine HR.out.mono ?_
  rintro e w3 ⟨hout, F3⟩
  have BZ3 := BZ2.fr F3 (by omega)
  have hlt3 := BZ3.lt
  have HF3 := Lib.hid (HF2.out.trans' F3 (fun i hi e => by omega))
  unfold TextOut at hout
  rw [List.drop_zero] at hout
  cases hr : textReadS l with
  | error x =>
    rw [hr] at hout
    obtain ⟨rfl, hx, C3⟩ := hout
    have hx1 : (x == 0) = false := beq_eq_false_iff_ne.2 hx
    have HRR := Lib.hid hr
    go_upto_region 2 with fail
    have BZ4 := BZ3.alloc (.cells #[.int .i64 0, .slice none 0 0] 107)
    have BY4 := Blk.new w3 107 #[.int .i64 0, .slice none 0 0]
    have F4 : Fr (fun _ => False) w3 (w3.alloc (.cells #[.int .i64 0, .slice none 0 0] 107)) := (Fr.refl w3).alloc _
    obtain ⟨y, hy⟩ : ∃ y, y = w3.heap.size := ⟨_, rfl⟩
    rw [← hy] at BY4 ⊢
    clear hy
    generalize (w3.alloc (.cells #[.int .i64 0, .slice none 0 0] 107)) = w4 at *
    have y0 := BY4.cell 0
    have y1 := BY4.cell 1
    simp only [List.getElem?_toArray, List.getElem?_cons_succ, List.getElem?_cons_zero] at y0 y1
    have z0 := BZ4.cell 0
    have z1 := BZ4.cell 1
    have f0 := BZ4.frozen 0
    have f1 := BZ4.frozen 1
    simp only [List.getElem?_toArray, List.getElem?_cons_succ, List.getElem?_cons_zero] at z0 z1
    obtain ⟨BZ5, F5⟩ := set2 BZ4 (.int .i64 0) (.slice none 0 0)
    have n0 := BZ5.cell 0
    have n1 := BZ5.cell 1
    simp only [List.getElem?_toArray, List.getElem?_cons_succ, List.getElem?_cons_zero] at n0 n1
    have HF5 := Lib.hid ((HF3.out.trans F4).trans' F5 (fun i hi e => by have := HZ.out; omega))
    clear hr C3 F3 F4 BZ2 BZ3 BZ4 BZ5 F5 BY4 HF2 HF3 HR hx
    go_wp2_with fail
    refine bodyPost_ret (v := .tuple #[.agg #[.int .i64 0, .slice none 0 0], .bool false]) (by simp [results, Tryz.results61, go_sem, n0, n1]) rfl ⟨?_, HF5.out⟩
    unfold WordsOut
    rw [HRR.out]
  | ok kbn =>
    obtain ⟨k, b, n⟩ := kbn
    rw [hr] at hout
    obtain ⟨⟨u, rfl, ho⟩, C3⟩ := hout
    have HRR := Lib.hid hr
    obtain ⟨au, mu, cu, rfl, rfl⟩ := own_shape ho
    go_upto_region 2 with fail
    have BZ4 := BZ3.alloc (.cells #[.int .i64 k, .slice au b.length cu] 107)
    have BY4 := Blk.new w3 107 #[.int .i64 k, .slice au b.length cu]
    have F4 : Fr (fun _ => False) w3 (w3.alloc (.cells #[.int .i64 k, .slice au b.length cu] 107)) := (Fr.refl w3).alloc _
    obtain ⟨y, hy⟩ : ∃ y, y = w3.heap.size := ⟨_, rfl⟩
    rw [← hy] at BY4 ⊢
    clear hy
    generalize (w3.alloc (.cells #[.int .i64 k, .slice au b.length cu] 107)) = w4 at *
    have y0 := BY4.cell 0
    have y1 := BY4.cell 1
    simp only [List.getElem?_toArray, List.getElem?_cons_succ, List.getElem?_cons_zero] at y0 y1
    have z0 := BZ4.cell 0
    have z1 := BZ4.cell 1
    have f0 := BZ4.frozen 0
    have f1 := BZ4.frozen 1
    simp only [List.getElem?_toArray, List.getElem?_cons_succ, List.getElem?_cons_zero] at z0 z1
    obtain ⟨BZ5, F5⟩ := set2 BZ4 (.int .i64 k) (.slice au b.length cu)
    have n0 := BZ5.cell 0
    have n1 := BZ5.cell 1
    simp only [List.getElem?_toArray, List.getElem?_cons_succ, List.getElem?_cons_zero] at n0 n1
    have HF5 := Lib.hid ((HF3.out.trans F4).trans' F5 (fun i hi e => by have := HZ.out; omega))
    have hzs := BZ2.lt
    have ho2 := ownsRow_fr (ownsRow_fr ho F4 (fun _ _ h => h)) F5 (fun q hq e => by have := ((Vals.of_own ho).2 q hq).1; omega)
    have HB := Lib.hid (Vals.of_own ho2).1
    clear hr C3 F3 F4 BZ2 BZ3 BZ4 BZ5 F5 BY4 HF2 HF3 HR ho ho2
    go_wp2_with fail
    refine bodyPost_ret (v := .tuple #[.agg #[.int .i64 k, .slice au b.length cu], .bool true]) (by simp [results, Tryz.results61, go_sem, n0, n1]) rfl ⟨?_, HF5.out⟩
    unfold WordsOut
    rw [HRR.out]
    exact ⟨_, rfl, HB.out⟩

set_option maxRecDepth 20000 in
set_option maxHeartbeats 1000000 in
theorem attrKey_any (x y : Value) (o : List Int) (b : List UInt8) (w : World) (hx : Ints w x o) (hy : Bytes w y b) (ho : oidOk o = true) (hl : b.length ≤ 10000000) (hE : Env w) :
    Calls Tryz.prog 109 #[.agg #[x, y]] w fun e w' => e = .returned (str (attrKeyS o b)) ∧ Fr (fun _ => False) w w' := by
  obtain ⟨ax, cx, rfl, -⟩ := Ints.form hx
  obtain ⟨ay, cy, rfl, -⟩ := Vals.form hy
  obtain ⟨z, hz⟩ : ∃ z, z = w.heap.size := ⟨_, rfl⟩
  have BZ := Blk.new w 39 #[.slice ax o.length cx, .slice ay b.length cy]
  have F0 : Fr (fun _ => False) w (w.alloc (.cells #[.slice ax o.length cx, .slice ay b.length cy] 39)) := (Fr.refl w).alloc _
  have HT := Lib.hid (oidText_any _ o _ (hx.old F0) ho (hE.old F0))
  have HY := Lib.hid (hy.old F0)
  have HE := Lib.hid (hE.old F0)
  rw [← hz] at BZ
  have HF0 := Lib.hid F0
  have HZ := Lib.hid hz
  have hk : attrKeyS o b = oidTextS o ++ (match textReadS b with | .ok (k, t, _) => [61, 116] ++ hexS (foldKeyS k t) | .error _ => [61, 98] ++ hexS b) := rfl
  have HK := Lib.hid hk
  have ho0 := Lib.hid ho
  clear hx hy F0 hz ho hE hk
  have hol : o.length ≤ 32 := (nums_ok ho0.out).2.1
  have hot : (oidTextS o).length ≤ 1000 := by
    have hall := ho0.out
    simp only [oidOk, Bool.and_eq_true, decide_eq_true_eq] at hall
    have := oidText_len (o := o) (fun n hn => by
      have := List.all_eq_true.1 hall.1.2 n hn
      simp only [arcOk, decide_eq_true_eq] at this
      omega)
    omega
  have hos : (ByteArray.mk (oidTextS o).toArray).size = (oidTextS o).length := by simp [ByteArray.size]
  generalize oidTextS o = ot at *
  go_enter Tryz.func109, Tryz.ntmps109
  go_upto_region 1 with fail
  rw [← HZ.out]
  generalize (w.alloc (.cells #[.slice ax o.length cx, .slice ay b.length cy] 39)) = w0 at *
  have z0 := BZ.cell 0
  simp at z0
  go_wp2_with fail
  refine HT.out.mono ?_
  rintro e w1 ⟨rfl, F1⟩
  have BZ1 := BZ.fr F1 (fun h => h)
  have z1 := BZ1.cell 1
  simp at z1
  have HY1 := Lib.hid (HY.out.old F1)
  have HE1 := Lib.hid (HE.out.old F1)
  have HF1 := Lib.hid (HF0.out.trans F1)
  clear HT HY HE HF0 F1 z0 BZ
  go_wp2_with fail
  refine (words_any _ b w1 HY1.out HE1.out (by omega)).mono ?_
  rintro e w2 ⟨hout, F2⟩
  have BZ2 := BZ1.fr F2 (fun h => h)
  have HY2 := Lib.hid (HY1.out.old F2)
  have HE2 := Lib.hid (HE1.out.old F2)
  have HF2 := Lib.hid (HF1.out.trans F2)
  unfold WordsOut at hout
  clear HY1 HE1 HF1 F2 z1 BZ1
  cases hr : textReadS b with
  | error x =>
    rw [hr] at hout
    subst hout
    have F3 : Fr (fun _ => False) w2 (w2.alloc (.cells #[.int .i64 0, .slice none 0 0] 107)) := (Fr.refl w2).alloc _
    have BZ3 := BZ2.fr F3 (fun h => h)
    have z1 := BZ3.cell 1
    simp only [List.getElem?_toArray, List.getElem?_cons_succ, List.getElem?_cons_zero] at z1
    have HX := Lib.hid (hex_any _ b _ (HY2.out.old F3) (by omega))
    have HF3 := Lib.hid (HF2.out.trans F3)
    have hkk := HK.out
    rw [hr] at hkk
    have HKK := Lib.hid hkk
    have hhl := hexS_len b
    have hhs : (ByteArray.mk (hexS b).toArray).size = (hexS b).length := by simp [ByteArray.size]
    clear hr hkk HY2 HF2 F3 BZ2 BZ3
    generalize hexS b = hb at *
    go_wp2_with fail
    refine HX.out.mono ?_
    rintro e w4 ⟨rfl, F4⟩
    go_wp2_with fail
    go_ret
    refine ⟨congrArg (fun x : ByteArray => Ending.returned (.string x)) ?_, HF3.out.trans F4⟩
    rw [HKK.out, ← List.append_assoc, ← ba_cat, ← ba_cat]
  | ok kbn =>
    obtain ⟨k, t, n⟩ := kbn
    rw [hr] at hout
    obtain ⟨u, rfl, hu⟩ := hout
    obtain ⟨hrt, htl⟩ := textRead_ok hr
    obtain ⟨au, cu, rfl, -⟩ := hu.form
    have F3 : Fr (fun _ => False) w2 (w2.alloc (.cells #[.int .i64 k, .slice au t.length cu] 107)) := (Fr.refl w2).alloc _
    have HX := Lib.hid (foldKey_any k _ t _ (hu.old F3) (HE2.out.old F3).tabs hrt (by omega))
    have HF3 := Lib.hid (HF2.out.trans F3)
    have hkk := HK.out
    rw [hr] at hkk
    simp only at hkk
    have HKK := Lib.hid hkk
    have hfl := foldKey_len k t
    clear hr hkk HY2 HF2 F3 BZ2 hu hrt
    generalize foldKeyS k t = fk at *
    go_upto_region 4 with fail
    have BY := Blk.new w2 107 #[.int .i64 k, .slice au t.length cu]
    obtain ⟨y, hy⟩ : ∃ y, y = w2.heap.size := ⟨_, rfl⟩
    rw [← hy] at BY ⊢
    clear hy
    generalize (w2.alloc (.cells #[.int .i64 k, .slice au t.length cu] 107)) = w3 at *
    have y0 := BY.cell 0
    have y1 := BY.cell 1
    simp only [List.getElem?_toArray, List.getElem?_cons_succ, List.getElem?_cons_zero] at y0 y1
    go_wp2_with fail
    refine HX.out.mono ?_
    rintro e w4 ⟨rfl, F4⟩
    obtain ⟨cp, wc, hcv, hbv, FC, -⟩ := bytes_of_str w4 fk (by omega)
    have HXX := Lib.hid (hex_any _ fk wc hbv (by omega))
    have HF4 := Lib.hid ((HF3.out.trans F4).trans FC)
    have hhl := hexS_len fk
    have hhs : (ByteArray.mk (hexS fk).toArray).size = (hexS fk).length := by simp [ByteArray.size]
    clear HX HF3 F4 hbv FC BY y0 y1
    generalize hexS fk = hb at *
    go_wp2_with fail
    refine HXX.out.mono ?_
    rintro e w5 ⟨rfl, F5⟩
    go_wp2_with fail
    go_ret
    refine ⟨congrArg (fun x : ByteArray => Ending.returned (.string x)) ?_, HF4.out.trans F5⟩
    rw [HKK.out, ← List.append_assoc, ← ba_cat, ← ba_cat]
end Go.Proofs.YtgffhiopbnkjbaaGreatDoor

namespace Go.Q
open Go Go.RowKit
/-- What holds of a world and of all worlds that part from it in K alone. -/
def Kept (R : World → Prop) (K : Nat → Prop) (w : World) : Prop := ∀ w', Fr K w w' → R w'
theorem Kept.now {R : World → Prop} {K : Nat → Prop} {w : World} (h : Kept R K w) : R w := h w (Fr.refl w)
theorem Kept.step {R : World → Prop} {K K' S : Nat → Prop} {w w' : World} (h : Kept R K w) (f : Fr S w w') (hS : ∀ k, k < w.heap.size → S k → K k) (hK : ∀ k, K' k → K k ∨ w.heap.size ≤ k) : Kept R K' w' := fun w2 f2 =>
  h w2 ((f.mono hS).trans' f2 (fun i hi e => (hK i e).elim id (fun h => by omega)))
theorem Kept.old {R : World → Prop} {K : Nat → Prop} {w w' : World} (h : Kept R K w) (f : Fr (fun _ => False) w w') : Kept R K w' := h.step f (fun _ _ h => h.elim) (fun _ h => .inl h)
theorem right20 (l : List UInt8) : rightS 20 l = true := by
  unfold rightS
  rw [Bool.and_eq_true]
  refine ⟨rfl, ?_⟩
  rw [List.all_eq_true]
  intro n hn
  unfold signsS at hn
  rw [if_neg (by decide), if_neg (by decide)] at hn
  obtain ⟨x, _, rfl⟩ := List.mem_map.1 hn
  have := x.toNat_lt
  unfold mayS
  rw [if_neg (by decide), if_neg (by decide), if_pos rfl]
  exact decide_eq_true (by omega)
theorem least_right (l : List UInt8) : rightS (leastK l) l = true := by
  unfold leastK
  split
  · assumption
  · split
    · assumption
    · exact right20 l
/-- A value as a whole of the least kind. -/
def leastWhole (l : List UInt8) : List UInt8 := wrapS (tagOf (leastK l)) l
/-- The part of a text. -/
def stepS (l : List UInt8) : Option Part :=
  if (cut1 61 l).2.2 = false then none else match fromTextS (cut1 61 l).1 with
    | .error _ => none
    | .ok o => some ⟨o, leastWhole (cut1 61 l).2.1⟩
theorem cut1_len (c : UInt8) : ∀ l : List UInt8, (cut1 c l).1.length ≤ l.length ∧ (cut1 c l).2.1.length ≤ l.length
  | [] => by simp [cut1]
  | x :: t => by
    have ih := cut1_len c t
    unfold cut1
    split
    · simp
    · simp only [List.length_cons]; omega
/-- A step of one part in memory. -/
theorem Attrs.of_block {w : World} {g : Nat} {x y : Value} {p : Part} (B : Blk w g 39 #[x, y]) (hx : Vals w x (intCells p.o)) (hy : Bytes w y p.b) : Attrs w (.slice (some ⟨g, 0, none⟩) 1 1) [p] :=
  ⟨_, 1, rfl, Nat.le_refl _, by unfold maxLen; omega, fun _ => ⟨g, 0, rfl, fun i q hq => by
    match i, hq with
    | 0, hq =>
      simp only [List.getElem?_cons_zero, Option.some.injEq] at hq
      subst hq
      exact ⟨x, y, B.cell 0, B.cell 1, hx, hy⟩
    | i + 1, hq => simp at hq⟩⟩
end Go.Q
namespace Go.Proofs.YtgffhiopbnkjbaaGreatDoor
open Go Go.RowKit Go.Q

/-- What step gives. -/
def StepOut (w w' : World) (l : List UInt8) (e : Ending) : Prop :=
  match stepS l with
  | none => e = .returned (.tuple #[.slice none 0 0, .int .i64 6])
  | some p => ∃ a c, e = .returned (.tuple #[.slice a 1 c, .int .i64 0]) ∧ Kept (fun W => Attrs W (.slice a 1 c) [p]) (fun k => k < w.heap.size) w'

set_option maxRecDepth 20000 in
set_option maxHeartbeats 1000000 in
theorem nameStep_any (l : List UInt8) (w : World) (hE : Env w) (hl : l.length ≤ 10000000) :
    Calls Tryz.prog 56 #[str l] w fun e w' => StepOut w w' l e ∧ Fr (fun _ => False) w w' := by
  have hc := strCut_any l 61 w hE (by omega)
  obtain ⟨hcl1, hcl2⟩ := cut1_len 61 l
  have hs : stepS l = if (cut1 61 l).2.2 = false then none else match fromTextS (cut1 61 l).1 with | .error _ => none | .ok o => some ⟨o, leastWhole (cut1 61 l).2.1⟩ := rfl
  have HC := Lib.hid hc
  have HS := Lib.hid hs
  have HE := Lib.hid hE
  clear hc hs hE
  generalize cut1 61 l = cc at *
  obtain ⟨kd, vl, ok⟩ := cc
  replace hcl1 : kd.length ≤ l.length := hcl1
  replace hcl2 : vl.length ≤ l.length := hcl2
  go_enter Tryz.func56, Tryz.ntmps56
  go_wp2_with fail
  refine HC.out.mono ?_
  rintro e w1 ⟨rfl, F1⟩
  have HFT := Lib.hid (fromText_any kd w1 (HE.out.old F1) (by omega))
  clear HC
  go_wp2_with fail
  refine HFT.out.mono ?_
  rintro e w2 ⟨hout, F2⟩
  have HF2 := Lib.hid (F1.trans F2)
  unfold fromTextOut at hout
  have hss := HS.out
  cases hft : fromTextS kd with
  | error x =>
    rw [hft] at hout hss
    obtain ⟨rfl, hx⟩ := hout
    have hx1 : (x == 0) = false := beq_eq_false_iff_ne.2 hx
    have hx2 : (x != 0) = true := by simpa using hx
    have hnone : stepS l = none := by
      rw [hss]
      split <;> rfl
    have HN := Lib.hid hnone
    clear hnone hss hft HFT hx
    cases ok
    all_goals
      go_wp2_with fail
      refine bodyPost_ret (v := .tuple #[.slice none 0 0, .int .i64 6]) (by simp [results, Tryz.results56, go_sem]) rfl ⟨?_, HF2.out⟩
      unfold StepOut
      rw [HN.out]
  | ok o =>
    rw [hft] at hout hss
    obtain ⟨u, rfl, hown⟩ := hout
    cases ok with
    | false =>
      have hnone : stepS l = none := by rw [hss]; rfl
      have HN := Lib.hid hnone
      obtain ⟨au, mu, cu, rfl, -⟩ := own_shape hown
      clear hnone hss hft HFT hown
      go_wp2_with fail
      refine bodyPost_ret (v := .tuple #[.slice none 0 0, .int .i64 6]) (by simp [results, Tryz.results56, go_sem]) rfl ⟨?_, HF2.out⟩
      unfold StepOut
      rw [HN.out]
    | true =>
      have hsome : stepS l = some ⟨o, leastWhole vl⟩ := by rw [hss]; rfl
      have HN := Lib.hid hsome
      obtain ⟨au, mu, cu, rfl, -⟩ := own_shape hown
      have HOW := Lib.hid hown
      have HL := Lib.hid (least_any vl w2 ((HE.out.old HF2.out).tabs) (by omega))
      clear hsome hss hft HFT hown
      go_wp2_with fail
      refine HL.out.mono ?_
      rintro e w3 ⟨⟨u3, rfl, hb3, hk3⟩, F3⟩
      have HW := Lib.hid (writeText_any (leastK vl) u3 vl w3 hb3 ((HE.out.old HF2.out).tabs.old F3) (least_right vl) (by omega))
      have HF3 := Lib.hid F3
      obtain ⟨a3, c3, rfl, -⟩ := hb3.form
      clear HL hb3 hk3 F3
      go_wp2_with fail
      refine HW.out.mono ?_
      rintro e w4 ⟨⟨u4, rfl, ho4⟩, F4⟩
      have hlw : wrapS (tagOf (leastK vl)) vl = leastWhole vl := rfl
      rw [hlw] at ho4
      obtain ⟨a4, m4, c4, rfl, -⟩ := own_shape ho4
      have F5 : Fr (fun _ => False) w4 (w4.alloc (.cells #[.slice au mu cu, .slice a4 m4 c4] 39)) := (Fr.refl w4).alloc _
      have BX := Blk.new w4 39 #[.slice au mu cu, .slice a4 m4 c4]
      have hs2 := HF2.out.size
      have hs1 := F1.size
      have hs3 := HF3.out.size
      have hs4 := F4.size
      have hown5 := ownsRow_fr (ownsRow_fr (ownsRow_fr HOW.out HF3.out (fun _ _ h => h)) F4 (fun _ _ h => h)) F5 (fun _ _ h => h)
      have ho5 := ownsRow_fr ho4 F5 (fun _ _ h => h)
      have HKP := Lib.hid (show Kept (fun W => Attrs W (.slice (some ⟨w4.heap.size, 0, none⟩) 1 1) [⟨o, leastWhole vl⟩]) (fun k => k < w.heap.size) (w4.alloc (.cells #[.slice au mu cu, .slice a4 m4 c4] 39)) from fun W f => by
        refine Attrs.of_block (BX.fr f (by omega)) (Vals.fr (Vals.of_own hown5).1 f (fun h0 k hk hs => ?_)) (Vals.fr (Vals.of_own ho5).1 f (fun h0 k hk hs => ?_))
        · have := ((Vals.of_own hown5).2 k hk).1
          omega
        · have := ((Vals.of_own ho5).2 k hk).1
          omega)
      have HF5 := Lib.hid (((HF2.out.trans HF3.out).trans F4).trans F5)
      clear HW ho4 F4 F5 BX hown5 ho5 HOW HF2 HF3
      go_wp2_with fail
      refine bodyPost_ret (v := .tuple #[.slice (some ⟨w4.heap.size, 0, none⟩) 1 1, .int .i64 0]) (by simp [results, Tryz.results56, go_sem]) rfl ⟨?_, HF5.out⟩
      unfold StepOut
      rw [HN.out]
      exact ⟨_, _, rfl, HKP.out⟩
end Go.Proofs.YtgffhiopbnkjbaaGreatDoor

namespace Go.Q
open Go Go.RowKit
/-- A name in a row of one's own. -/
def NmRow (w : World) (base : Nat) (v : Value) (n : List (List Part)) : Prop :=
  ∃ us : List Value, w.ownsRow base 41 1 v n.length us ∧ us.length = n.length ∧ ∀ (i : Nat) (u : Value) (r : List Part), us[i]? = some u → n[i]? = some r → Kept (fun W => Attrs W u r) (fun k => v.ownBlock = some k) w
theorem NmRow.at {w : World} {base : Nat} {v : Value} {n : List (List Part)} (h : NmRow w base v n) : NameAt w v n := by
  obtain ⟨us, h1, h2, h3⟩ := h
  obtain ⟨a, cap, he, hc, hm, hx⟩ := (Vals.of_own h1).1
  rw [h2] at he hc hx
  refine ⟨a, cap, he, hc, hm, fun h0 => ?_⟩
  obtain ⟨b, o, rfl, hy⟩ := hx h0
  refine ⟨b, o, rfl, fun i r hr => ?_⟩
  have hi : i < us.length := by rw [h2]; exact (List.getElem?_eq_some_iff.1 hr).1
  exact ⟨us[i], hy i _ (List.getElem?_eq_getElem hi), (h3 i _ r (List.getElem?_eq_getElem hi) hr).now⟩
theorem NmRow.old {w w' : World} {base : Nat} {v : Value} {n : List (List Part)} (h : NmRow w base v n) (f : Fr (fun _ => False) w w') : NmRow w' base v n := by
  obtain ⟨us, h1, h2, h3⟩ := h
  exact ⟨us, Go.Proofs.YtgffhiopbnkjbaaGreatDoor.ownsRow_fr h1 f (fun _ _ h => h), h2, fun i u r hu hr => (h3 i u r hu hr).old f⟩
theorem NmRow.kept {w : World} {base : Nat} {v : Value} {n : List (List Part)} (h : NmRow w base v n) : ∀ k, v.ownBlock = some k → base ≤ k ∧ k < w.heap.size := by
  obtain ⟨us, h1, -⟩ := h
  exact (Vals.of_own h1).2
theorem NmRow.shape {w : World} {base : Nat} {v : Value} {n : List (List Part)} (h : NmRow w base v n) : ∃ a c, v = .slice a n.length c := by
  obtain ⟨us, h1, -⟩ := h
  obtain ⟨a, m, c, rfl, rfl⟩ := own_shape h1
  exact ⟨a, c, rfl⟩
theorem Attrs.form {w : World} {v : Value} {l : List Part} (h : Attrs w v l) : ∃ a cap, v = .slice a l.length cap := by
  obtain ⟨a, cap, rfl, -⟩ := h
  exact ⟨a, cap, rfl⟩
theorem NmRow.nil (w : World) (base : Nat) : NmRow w base (.slice none 0 0) [] := ⟨[], ⟨rfl, .inl ⟨rfl, rfl⟩⟩, rfl, fun i u r h => by simp at h⟩
/-- The steps of texts. -/
def stepsOfS : List (List UInt8) → Option (List (List Part))
  | [] => some []
  | s :: t => match stepS s with
    | none => none
    | some p => (stepsOfS t).map ([p] :: ·)
/-- The name of texts. -/
def nameOfS (l : List (List UInt8)) : Except Int (List (List Part)) :=
  match stepsOfS l with
  | none => .error 6
  | some n => if 64 < n.length then .error 2 else .ok n
theorem stepsOf_next {ps : List (List UInt8)} {os : List (List Part)} {j : Nat} {s : List UInt8} {p : Part} (hR : stepsOfS ps = (stepsOfS (ps.drop j)).map (os ++ ·)) (hp : ps[j]? = some s) (hn : stepS s = some p) : stepsOfS ps = (stepsOfS (ps.drop (j + 1))).map ((os ++ [[p]]) ++ ·) := by
  have hd : ps.drop j = s :: ps.drop (j + 1) := by
    obtain ⟨h, rfl⟩ := List.getElem?_eq_some_iff.1 hp
    exact List.drop_eq_getElem_cons h
  rw [hR, hd]
  simp only [stepsOfS, hn, Option.map_map]
  congr 1
  funext y
  simp
theorem stepsOf_none {ps : List (List UInt8)} {os : List (List Part)} {j : Nat} {s : List UInt8} (hR : stepsOfS ps = (stepsOfS (ps.drop j)).map (os ++ ·)) (hp : ps[j]? = some s) (hn : stepS s = none) : stepsOfS ps = none := by
  have hd : ps.drop j = s :: ps.drop (j + 1) := by
    obtain ⟨h, rfl⟩ := List.getElem?_eq_some_iff.1 hp
    exact List.drop_eq_getElem_cons h
  rw [hR, hd]
  simp only [stepsOfS, hn, Option.map_none]
end Go.Q
namespace Go.Proofs.YtgffhiopbnkjbaaGreatDoor
open Go Go.RowKit Go.Q

theorem info41 : (Tryz.prog.info? 41).map (fun i => (i.zero, i.size, i.bytes)) = some (some (.slice none 0 0), 1, 24) := by kernel_rfl
/-- A step more. -/
theorem NmRow.add {w wa : World} {base : Nat} {v : Value} {n : List (List Part)} (h : NmRow w base v n) (hb : base ≤ w.heap.size) (F1 : Fr (fun _ => False) w wa) (g : Nat) (u : Value) (r : List Part) (BX : Blk wa g 41 #[u]) (hu1 : u.oneCell' = true) (hu : Kept (fun W => Attrs W u r) (fun k => v.ownBlock = some k) w) (hn : n.length ≤ 109951162777) :
    ∃ a c w', (Builtin.append_ #[33, 33] 33 #[v, .slice (some ⟨g, 0, none⟩) 1 1]).run Tryz.prog wa = .ok (.slice a (n.length + 1) c) w' ∧ NmRow w' base (.slice a (n.length + 1) c) (n ++ [r]) ∧ Fr (fun k => v.ownBlock = some k) w w' := by
  obtain ⟨us, h1, h2, h3⟩ := h
  obtain ⟨a, c, w', hrun, h4, F2, h5⟩ := add_gen Tryz.underlying33 info41 rfl (by decide) (by decide) h1 hb F1 g [u] rfl BX (by simpa using hu1) hn
  refine ⟨a, c, w', hrun, ⟨us ++ [u], ?_, by simp [h2], fun i x s hx hs => ?_⟩, F2⟩
  · rw [List.length_append]
    exact h4
  · rcases Nat.lt_or_ge i us.length with hi | hi
    · rw [List.getElem?_append_left hi] at hx
      rw [List.getElem?_append_left (by omega)] at hs
      exact (h3 i x s hx hs).step F2 (fun _ _ h => h) h5
    · obtain rfl : i = us.length := by
        have := (List.getElem?_eq_some_iff.1 hx).1
        simp at this
        omega
      rw [List.getElem?_append_right (Nat.le_refl _)] at hx
      rw [List.getElem?_append_right (by omega)] at hs
      simp at hx
      simp [h2] at hs
      subst hx; subst hs
      exact hu.step F2 (fun _ _ h => h) h5

/-- What Of gives. -/
def NameOfOut (w w' : World) (l : List (List UInt8)) (e : Ending) : Prop :=
  match nameOfS l with
  | .error x => e = .returned (.tuple #[.slice none 0 0, .int .i64 x]) ∧ x ≠ 0
  | .ok n => ∃ v, e = .returned (.tuple #[v, .int .i64 0]) ∧ NmRow w' w.heap.size v n

set_option maxRecDepth 20000 in
set_option maxHeartbeats 2000000 in
theorem nameOf_any (v : Value) (ks : List (List UInt8)) (w : World) (h : Strs w v ks) (hE : Env w) (hk : ∀ k ∈ ks, k.length ≤ 10000000) (hl : ks.length ≤ 1000000) :
    Calls Tryz.prog 25 #[v] w fun e w' => NameOfOut w w' ks e ∧ Fr (fun _ => False) w w' := by
  have H := Lib.hid h
  have HE := Lib.hid hE
  have HK := Lib.hid hk
  obtain ⟨a, cap, rfl, hc, hm, -⟩ := Strs.form h
  clear h hE hk
  go_enter Tryz.func25, Tryz.ntmps25
  go_upto_region 2 with fail
  have B0 := Blk.new w 41 #[]
  have F0 : Fr (fun _ => False) w (w.alloc (.cells #[] 41)) := (Fr.refl w).alloc _
  have N0 : NmRow (w.alloc (.cells #[] 41)) w.heap.size (.slice (some ⟨w.heap.size, 0, none⟩) 0 0) [] := ⟨[], own_block B0 0 (Nat.le_refl _) (Nat.zero_le _) w.heap.size (Nat.le_refl _), rfl, fun i u r h => by simp at h⟩
  have HN0 := Lib.hid N0
  have HF0 := Lib.hid F0
  have hno : nameOfS ks = match stepsOfS ks with | none => .error 6 | some n => if 64 < n.length then .error 2 else .ok n := rfl
  have HNO := Lib.hid hno
  clear B0 F0 N0 hno
  generalize (w.alloc (.cells #[] 41)) = w1 at *
  go_wp2_with fail
  go_loopg [4, 12] ks.length (fun g u i wr => ∃ (j : Nat) (os : List (List Part)) (au : Option Addr) (cu : Nat), g = ks.length - j ∧ j ≤ ks.length ∧ u = .slice au os.length cu ∧ i = .int .i64 j ∧ os.length = j ∧ NmRow wr w.heap.size (.slice au os.length cu) os ∧ Fr (fun _ => False) w wr ∧ stepsOfS ks = (stepsOfS (ks.drop j)).map (os ++ ·))
  case atStart => exact ⟨0, [], _, 0, rfl, Nat.zero_le _, rfl, rfl, rfl, HN0.out, HF0.out, by simp⟩
  case round =>
    obtain ⟨j, os, au, cu, hg, hj, rfl, rfl, hos, hrow, F, hR⟩ := hrel
    have HG := Lib.hid hg
    have HOS := Lib.hid hos
    have HRW := Lib.hid hrow
    have HR := Lib.hid hR
    have HF := Lib.hid F
    clear hg hos hrow hR
    by_cases hjl : j < ks.length
    · obtain ⟨a0, cap0, he, _, _, hx⟩ := Strs.form (H.out.old F)
      simp only [Value.slice.injEq, true_and] at he
      obtain ⟨rfl, rfl⟩ := he
      obtain ⟨b, off, rfl, hy⟩ := hx (by omega)
      obtain ⟨s, hs⟩ : ∃ s, ks[j]? = some s := ⟨_, List.getElem?_eq_getElem hjl⟩
      have e1 := hy j s hs
      have hsl := HK.out s (List.mem_of_getElem? hs)
      have HSS := Lib.hid hs
      have HST := Lib.hid (nameStep_any s wr (HE.out.old F) hsl)
      have r1 : (0 : Int) ≤ (j : Int) := by omega
      have r2 : (j : Int) < (ks.length : Int) := by omega
      clear hx hy hs F
      go_wp2_with fail
      refine HST.out.mono ?_
      rintro e w2 ⟨hout, F2⟩
      unfold StepOut at hout
      cases hp : stepS s with
      | none =>
        rw [hp] at hout
        subst hout
        have hnone := stepsOf_none HR.out HSS.out hp
        have hres : nameOfS ks = .error 6 := by rw [HNO.out, hnone]
        have HRES := Lib.hid hres
        clear hp hnone hres
        go_wp2_with fail
        refine bodyPost_ret (v := .tuple #[.slice none 0 0, .int .i64 6]) (by simp [results, Tryz.results25, go_sem]) rfl ⟨?_, HF.out.trans F2⟩
        unfold NameOfOut
        rw [HRES.out]
        exact ⟨rfl, by decide⟩
      | some p =>
        rw [hp] at hout
        obtain ⟨ap, cp, rfl, hkp⟩ := hout
        have hnx := stepsOf_next HR.out HSS.out hp
        have HNX := Lib.hid hnx
        have F3 : Fr (fun _ => False) w2 (w2.alloc (.cells #[.slice ap 1 cp] 41)) := (Fr.refl w2).alloc _
        have hs1 := HF.out.size
        have hs2 := F2.size
        have hbk := HRW.out.kept
        obtain ⟨a', c', w4, hrun, hrow4, F4⟩ := NmRow.add (HRW.out.old F2) (by omega) F3 w2.heap.size (.slice ap 1 cp) [p] (Blk.new w2 41 #[.slice ap 1 cp]) rfl (hkp.step (Fr.refl w2) (fun _ _ h => h) (fun k hk => .inl (hbk k hk).2)) (by rw [HOS.out]; omega)
        have HRUN := Lib.hid hrun
        have HRW4 := Lib.hid hrow4
        have HF4 := Lib.hid ((HF.out.trans F2).trans' F4 (fun i hi e => by have := (hbk i e).1; omega))
        clear hnx hp hkp F2 F3 hrun hrow4 F4 hbk HRW HF HST
        go_wp2_with (at_builtin; refine wpList_append_run (by rfl) (.tmp 24) (.tmp 26) 33 (by rfl) _ w4 (by exact HRUN.out) ?_)
        go_roundg (ks.length - (j + 1))
        case measure => rw [HG.out]; omega
        case rel => exact ⟨j + 1, os ++ [[p]], a', c', rfl, by omega, by rw [List.length_append]; rfl, by go_num, by simp [HOS.out], by rw [List.length_append]; exact HRW4.out, HF4.out, HNX.out⟩
    · obtain rfl : j = ks.length := by omega
      have hd : ks.drop ks.length = [] := List.drop_length
      have hall : stepsOfS ks = some os := by rw [HR.out, hd]; simp [stepsOfS]
      have hres : nameOfS ks = if 64 < os.length then .error 2 else .ok os := by rw [HNO.out, hall]
      have HRES := Lib.hid hres
      clear hd hall hres
      by_cases h64 : 64 < os.length
      · have q1 : (64 : Int) < (os.length : Int) := by omega
        go_wp2_with fail
        refine bodyPost_ret (v := .tuple #[.slice none 0 0, .int .i64 2]) (by simp [results, Tryz.results25, go_sem]) rfl ⟨?_, HF.out⟩
        unfold NameOfOut
        rw [HRES.out, if_pos h64]
        exact ⟨rfl, by decide⟩
      · have q1 : ¬ (64 : Int) < (os.length : Int) := by omega
        go_wp2_with fail
        refine bodyPost_ret (v := .tuple #[.slice au os.length cu, .int .i64 0]) (by simp [results, Tryz.results25, go_sem]) rfl ⟨?_, HF.out⟩
        unfold NameOfOut
        rw [HRES.out, if_neg h64]
        exact ⟨_, rfl, HRW.out⟩
end Go.Proofs.YtgffhiopbnkjbaaGreatDoor

namespace Go.Q
open Go Go.RowKit
/-- Which of two rows of numbers is less. -/
def cmpI : List Int → List Int → Int
  | [], [] => 0
  | [], _ :: _ => -1
  | _ :: _, [] => 1
  | x :: s, y :: t => if x < y then -1 else if y < x then 1 else cmpI s t
theorem cmpI_zero : ∀ (s t : List Int), cmpI s t = 0 ↔ s = t
  | [], [] => by simp [cmpI]
  | [], _ :: _ => by simp [cmpI]
  | _ :: _, [] => by simp [cmpI]
  | x :: s, y :: t => by
    have ih := cmpI_zero s t
    unfold cmpI
    split
    · simp; intro h; omega
    · split
      · simp; intro h; omega
      · rw [ih]
        simp
        intro _
        omega
/-- A row of parts of one's own, its texts read in w. -/
def AttrRow (w wr : World) (base : Nat) (v : Value) (l : List Part) : Prop :=
  ∃ cs : List Value, wr.ownsRow base 39 2 v l.length cs ∧ ∀ (i : Nat) (p : Part), l[i]? = some p → ∃ x y, cs[2 * i]? = some x ∧ cs[2 * i + 1]? = some y ∧ Vals w x (intCells p.o) ∧ Bytes w y p.b
theorem AttrRow.at {w wr : World} {base : Nat} {v : Value} {l : List Part} (h : AttrRow w wr base v l) (F : Fr (fun _ => False) w wr) : Attrs wr v l := by
  obtain ⟨cs, ⟨h1, h2⟩, h3⟩ := h
  rcases h2 with ⟨rfl, h0⟩ | ⟨g, cap, cur, rfl, hg, hh, hnc, hcm, hcs, htk⟩
  · exact ⟨none, 0, by rw [h0], by omega, by unfold maxLen; omega, fun h => by omega⟩
  · refine ⟨_, cap, rfl, hnc, hcm, fun _ => ⟨g, 0, rfl, fun i p hp => ?_⟩⟩
    obtain ⟨x, y, e1, e2, e3, e4⟩ := h3 i p hp
    have hi := (List.getElem?_eq_some_iff.1 hp).1
    have gc : ∀ k, k < l.length * 2 → wr.cell? ⟨g, 0 + k, none⟩ = cs[k]? := fun k hk => by
      have := congrArg (fun z : List Value => z[k]?) htk
      simp only [List.getElem?_take, if_pos hk, Array.getElem?_toList] at this
      rw [Nat.zero_add]
      simp only [World.cell?, hh]
      exact this
    refine ⟨x, y, ?_, ?_, e3.old F, e4.old F⟩
    · rw [gc (2 * i) (by omega)]; exact e1
    · rw [Nat.add_assoc, gc (2 * i + 1) (by omega)]; exact e2
theorem AttrRow.start {w wr : World} {base : Nat} {v : Value} (h : wr.ownsRow base 39 2 v 0 []) : AttrRow w wr base v [] := ⟨[], h, fun i p hp => by simp at hp⟩
theorem nmFlat_take {n : List (List Part)} {j : Nat} {r : List Part} (h : n[j]? = some r) : (n.take (j + 1)).flatten = (n.take j).flatten ++ r := by
  rw [List.take_add_one, h]
  simp
end Go.Q
namespace Go.Proofs.YtgffhiopbnkjbaaGreatDoor
open Go Go.RowKit Go.Q
theorem info39 : (Tryz.prog.info? 39).map (fun i => (i.zero, i.size, i.bytes)) = some (some (.agg #[.slice none 0 0, .slice none 0 0]), 2, 48) := by kernel_rfl

set_option maxRecDepth 20000 in
set_option maxHeartbeats 1000000 in
theorem growAttr_any (n : Nat) (w : World) (hn : n ≤ 1000000000) :
    Calls Tryz.prog 92 #[.slice none 0 0, .int .i64 n] w fun e w' => (∃ a c, e = .returned (.slice a 0 c) ∧ w'.ownsRow w.heap.size 39 2 (.slice a 0 c) 0 []) ∧ Fr (fun _ => False) w w' := by
  obtain ⟨i0, hi0, hz0, hz1, hz2⟩ := info_parts info39
  have w0 : wrap64 ((n : Int) - 0) = (n : Int) := by unfold wrap64; omega
  rcases Nat.eq_zero_or_pos n with rfl | h0
  · go_enter Tryz.func92, Tryz.ntmps92
    go_wp2_with fail
    go_ret
    exact ⟨⟨none, 0, rfl, rfl, .inl ⟨rfl, rfl⟩⟩, Fr.refl _⟩
  · have hrz := fun ty => Lib.run_append_grow_zeros (P := Tryz.prog) w 41 3 ty 39 i0 _ .i64 .i64 Tryz.underlying41 Tryz.underlying3 hi0 hz0 none 0 0 [] (by rw [hz1]; rfl) n h0 (by rw [hz1]; decide) (by omega) (by omega) (by rw [hz2]; omega) (growslice_fits (by omega) (by rw [hz2]; omega))
    have hG := grownCap_ge w (0 + n) 0 39
    have hG2 := grownCap_le_maxLen w (0 + n) 0 39 (by unfold maxLen; omega)
    have hcsz : (([] : List Value).toArray ++ Builtin.zeroCells (Value.agg #[.slice none 0 0, .slice none 0 0]).cells n ++ Builtin.zeroCells (Value.agg #[.slice none 0 0, .slice none 0 0]).cells (grownCap w (0 + n) 0 39 - (0 + n))).size = grownCap w (0 + n) 0 39 * 2 := by
      simp only [Array.size_append, size_zeroCells, List.size_toArray, List.length_nil]
      have : (Value.agg #[.slice none 0 0, .slice none 0 0]).cells.size = 2 := rfl
      rw [this]
      omega
    generalize ([] : List Value).toArray ++ Builtin.zeroCells (Value.agg #[.slice none 0 0, .slice none 0 0]).cells n ++ Builtin.zeroCells (Value.agg #[.slice none 0 0, .slice none 0 0]).cells (grownCap w (0 + n) 0 39 - (0 + n)) = cs at *
    generalize grownCap w (0 + n) 0 39 = G at *
    rw [Nat.zero_add] at hrz hG
    have BX := (Blk.new w.drew 39 cs)
    have F : Fr (fun _ => False) w (w.drew.alloc (.cells cs 39)) := (Fr.refl w).drew.alloc _
    have hown : (w.drew.alloc (.cells cs 39)).ownsRow w.heap.size 39 2 (.slice (some ⟨w.heap.size, 0, none⟩) 0 G) 0 [] := ⟨rfl, .inr ⟨w.heap.size, G, cs, rfl, Nat.le_refl _, BX, Nat.zero_le _, hG2, hcsz, rfl⟩⟩
    have HO := Lib.hid hown
    have HF := Lib.hid F
    have HRZ := Lib.hid hrz
    have hG63 : (G : Int) ≤ 9223372036854775807 := by unfold maxLen at hG2; omega
    have h1 : (0 : Int) < (n : Int) := by omega
    have hgn : (n : Int) ≤ (G : Int) := by omega
    clear hown F BX hrz hi0 hz0 hz1 hz2 hcsz hG2
    go_enter Tryz.func92, Tryz.ntmps92
    go_wp2_with (at_builtin; refine Lib.wpList_append_run _ rfl _ _ _ _ rfl _ _ rfl rfl _ _ (HRZ.out _) ?_)
    all_goals
      go_ret
      exact ⟨⟨_, _, rfl, HO.out⟩, HF.out⟩

/-- A step's parts are appended. -/
theorem AttrRow.add {w wr : World} {base : Nat} {v u : Value} {l r : List Part} (h : AttrRow w wr base v l) (hb : base ≤ wr.heap.size) (F : Fr (fun _ => False) w wr) (hr : Attrs w u r) (hr0 : 0 < r.length) (hn : l.length + r.length ≤ 1099511627776) :
    ∃ a c w', (Builtin.append_ #[41, 41] 41 #[v, u]).run Tryz.prog wr = .ok (.slice a (l.length + r.length) c) w' ∧ AttrRow w w' base (.slice a (l.length + r.length) c) (l ++ r) ∧ Fr (fun k => v.ownBlock = some k) wr w' := by
  obtain ⟨cs, h1, h3⟩ := h
  obtain ⟨ar, cr, rfl, hrc, hrm, hx⟩ := hr
  obtain ⟨b, o, rfl, hy⟩ := hx hr0
  have hcell : ∀ i, i < r.length → ∃ p x y, r[i]? = some p ∧ w.cell? ⟨b, o + 2 * i, none⟩ = some x ∧ w.cell? ⟨b, o + 2 * i + 1, none⟩ = some y ∧ Vals w x (intCells p.o) ∧ Bytes w y p.b := fun i hi => by
    obtain ⟨x, y, e⟩ := hy i _ (List.getElem?_eq_getElem hi)
    exact ⟨_, x, y, List.getElem?_eq_getElem hi, e⟩
  have hall : ∀ k, k < r.length * 2 → ∃ x, w.cell? ⟨b, o + k, none⟩ = some x ∧ x.oneCell' = true := fun k hk => by
    obtain ⟨p, x, y, -, e1, e2, e3, e4⟩ := hcell (k / 2) (by omega)
    rcases Nat.mod_two_eq_zero_or_one k with h0 | h0
    · obtain ⟨ax, cx, rfl, -⟩ := Ints.form e3
      exact ⟨_, by rw [show k = 2 * (k / 2) from by omega]; exact e1, rfl⟩
    · obtain ⟨ay, cy, rfl, -⟩ := Vals.form e4
      exact ⟨_, by rw [show k = 2 * (k / 2) + 1 from by omega, ← Nat.add_assoc]; exact e2, rfl⟩
  obtain ⟨news, hnl, hnews⟩ : ∃ news : List Value, news.length = r.length * 2 ∧ ∀ k x, news[k]? = some x → w.cell? ⟨b, o + k, none⟩ = some x ∧ x.oneCell' = true := by
    refine ⟨(List.range (r.length * 2)).map fun k => (w.cell? ⟨b, o + k, none⟩).getD undef, by simp, fun k x hk => ?_⟩
    have hkl : k < r.length * 2 := by
      have := (List.getElem?_eq_some_iff.1 hk).1
      simpa using this
    obtain ⟨y, e1, e2⟩ := hall k hkl
    rw [List.getElem?_map, List.getElem?_range hkl] at hk
    simp only [Option.map_some, Option.some.injEq] at hk
    rw [e1] at hk
    simp only [Option.getD_some] at hk
    subst hk
    exact ⟨e1, e2⟩
  obtain ⟨a, c, w', hrun, h4, F2, -⟩ := append_gen Tryz.underlying41 info39 rfl (by decide) (by decide) h1 hb ⟨b, o, none⟩ r.length cr news hnl (fun k x hk => by
    rw [show (⟨b, o, none⟩ : Addr).add k = ⟨b, o + k, none⟩ from by unfold Addr.add; split <;> simp_all]
    exact F.cell (hnews k x hk).1 (fun h => h)) (fun x hx => by
    obtain ⟨k, hk⟩ := List.mem_iff_getElem?.1 hx
    exact (hnews k x hk).2) hn
  have hcl : cs.length = l.length * 2 := h1.1
  refine ⟨a, c, w', hrun, ⟨cs ++ news, by rw [List.length_append]; exact h4, fun i p hp => ?_⟩, F2⟩
  rcases Nat.lt_or_ge i l.length with hi | hi
  · rw [List.getElem?_append_left hi] at hp
    obtain ⟨x, y, e1, e2, e3⟩ := h3 i p hp
    exact ⟨x, y, by rw [List.getElem?_append_left (by omega)]; exact e1, by rw [List.getElem?_append_left (by omega)]; exact e2, e3⟩
  · rw [List.getElem?_append_right hi] at hp
    have hil := (List.getElem?_eq_some_iff.1 hp).1
    obtain ⟨q, x, y, hq, e1, e2, e3⟩ := hcell (i - l.length) hil
    rw [hp] at hq
    simp only [Option.some.injEq] at hq
    subst hq
    have g1 : news[2 * (i - l.length)]? = some x := by
      have hlt : 2 * (i - l.length) < news.length := by omega
      obtain ⟨z, hz⟩ : ∃ z, news[2 * (i - l.length)]? = some z := ⟨_, List.getElem?_eq_getElem hlt⟩
      have := (hnews _ z hz).1
      rw [e1] at this
      rw [hz, ← this]
    have g2 : news[2 * (i - l.length) + 1]? = some y := by
      have hlt : 2 * (i - l.length) + 1 < news.length := by omega
      obtain ⟨z, hz⟩ : ∃ z, news[2 * (i - l.length) + 1]? = some z := ⟨_, List.getElem?_eq_getElem hlt⟩
      have := (hnews _ z hz).1
      rw [← Nat.add_assoc, e2] at this
      rw [hz, ← this]
    refine ⟨x, y, ?_, ?_, e3⟩
    · rw [List.getElem?_append_right (by omega), show 2 * i - cs.length = 2 * (i - l.length) from by omega]; exact g1
    · rw [List.getElem?_append_right (by omega), show 2 * i + 1 - cs.length = 2 * (i - l.length) + 1 from by omega]; exact g2

set_option maxRecDepth 20000 in
set_option maxHeartbeats 2000000 in
theorem concatRdn_any (v : Value) (n : List (List Part)) (w : World) (h : NameAt w v n) (hn : n.length ≤ 1000) (hr : ∀ r ∈ n, 0 < r.length ∧ r.length ≤ 1000) :
    Calls Tryz.prog 59 #[v] w fun e w' => (∃ u, e = .returned u ∧ Attrs w' u n.flatten) ∧ Fr (fun _ => False) w w' := by
  have H := Lib.hid h
  have HR := Lib.hid hr
  obtain ⟨a, cap, rfl, -⟩ := h
  have hfl : ∀ j, ((n.take j).flatten).length ≤ 1000 * 1000 := fun j => by
    have : ∀ m : List (List Part), (∀ r ∈ m, r.length ≤ 1000) → m.flatten.length ≤ m.length * 1000 := by
      intro m
      induction m with
      | nil => intro _; simp
      | cons x t ih =>
        intro hm
        have h1 := hm x (by simp)
        have h2 := ih (fun r hr => hm r (by simp [hr]))
        simp only [List.flatten_cons, List.length_append, List.length_cons, Nat.add_mul]
        omega
    have h1 := this (n.take j) (fun r hm => (HR.out r (List.mem_of_mem_take hm)).2)
    have h2 : (n.take j).length * 1000 ≤ 1000 * 1000 := Nat.mul_le_mul_right _ (by rw [List.length_take]; omega)
    omega
  have HFL := Lib.hid hfl
  clear hr hfl
  go_enter Tryz.func59, Tryz.ntmps59
  go_wp2_with fail
  go_loopg [3, 11] n.length (fun g s i wr => ∃ (j m : Nat), g = n.length - j ∧ j ≤ n.length ∧ s = .int .i64 m ∧ i = .int .i64 j ∧ m = ((n.take j).flatten).length ∧ wr = w)
  case atStart => exact ⟨0, 0, rfl, Nat.zero_le _, rfl, rfl, rfl, rfl⟩
  case round =>
    obtain ⟨j, m, hg, hj, rfl, rfl, hm, rfl⟩ := hrel
    have HG := Lib.hid hg
    have hml : m ≤ 1000 * 1000 := by rw [hm]; exact HFL.out j
    have HM := Lib.hid hm
    clear hg hm
    by_cases hjl : j < n.length
    · obtain ⟨a0, cap0, he, _, _, hx⟩ := H.out
      simp only [Value.slice.injEq, true_and] at he
      obtain ⟨rfl, rfl⟩ := he
      obtain ⟨b, off, rfl, hy⟩ := hx (by omega)
      obtain ⟨r, hr⟩ : ∃ r, n[j]? = some r := ⟨_, List.getElem?_eq_getElem hjl⟩
      obtain ⟨x, e1, hA⟩ := hy j r hr
      obtain ⟨ax, cx, rfl⟩ := hA.form
      have HFT := Lib.hid (nmFlat_take hr)
      have b2 := (HR.out r (List.mem_of_getElem? hr)).2
      have r1 : (0 : Int) ≤ (j : Int) := by omega
      have r2 : (j : Int) < (n.length : Int) := by omega
      clear hx hy hr hA
      have hnn : ¬ ((m : Int) + (r.length : Int)) < 0 := by omega
      go_wp2_with fail
      go_roundg (n.length - (j + 1))
      case measure => rw [HG.out]; omega
      case rel => exact ⟨j + 1, m + r.length, rfl, by omega, by go_num, by go_num, by rw [HFT.out, HM.out, List.length_append], rfl⟩
    · obtain rfl : j = n.length := by omega
      obtain ⟨wo, rfl⟩ : ∃ wo : World, wo = wr := ⟨_, rfl⟩
      have HGR := Lib.hid (growAttr_any m wo (by omega))
      clear hjl
      go_wp2_with fail
      refine HGR.out.mono ?_
      rintro e w1 ⟨⟨a1, c1, rfl, hown1⟩, F1⟩
      have HO1 := Lib.hid hown1
      have HF1 := Lib.hid F1
      clear HGR hown1 F1
      go_wp2_with fail
      go_loopg [6, 27] n.length (fun g s i w2 => ∃ (j : Nat) (l : List Part) (a2 : Option Addr) (c2 : Nat), g = n.length - j ∧ j ≤ n.length ∧ s = .slice a2 l.length c2 ∧ i = .int .i64 j ∧ l = (n.take j).flatten ∧ AttrRow wo w2 wo.heap.size (.slice a2 l.length c2) l ∧ Fr (fun _ => False) wo w2)
      case atStart => exact ⟨0, [], a1, c1, rfl, Nat.zero_le _, rfl, rfl, rfl, AttrRow.start HO1.out, HF1.out⟩
      case round =>
        obtain ⟨j, l, a2, c2, hg, hj, rfl, rfl, hl, hrow, F2⟩ := hrel
        have HG := Lib.hid hg
        have HRW := Lib.hid hrow
        have HF2 := Lib.hid F2
        have hll : l.length ≤ 1000 * 1000 := by rw [hl]; exact HFL.out j
        have HL := Lib.hid hl
        clear hg hrow hl
        by_cases hjl : j < n.length
        · obtain ⟨a0, cap0, he, _, _, hx⟩ := H.out
          simp only [Value.slice.injEq, true_and] at he
          obtain ⟨rfl, rfl⟩ := he
          obtain ⟨b, off, rfl, hy⟩ := hx (by omega)
          obtain ⟨r, hr⟩ : ∃ r, n[j]? = some r := ⟨_, List.getElem?_eq_getElem hjl⟩
          obtain ⟨x, e0, hA⟩ := hy j r hr
          have e1 := F2.cell e0 (fun h => h)
          have hrr := HR.out r (List.mem_of_getElem? hr)
          have HFT := Lib.hid (nmFlat_take hr)
          have hs2 := F2.size
          obtain ⟨a4, c4, w4, hrun, hrow4, F4⟩ := AttrRow.add HRW.out hs2 F2 hA hrr.1 (by omega)
          obtain ⟨ax, cx, rfl⟩ := hA.form
          have hbk : ∀ k, (Value.slice a2 l.length c2).ownBlock = some k → wo.heap.size ≤ k := fun k hk => by
            obtain ⟨cs, h1, -⟩ := HRW.out
            exact (h1.lt k hk).1
          have HF4 := Lib.hid (F2.trans' F4 (fun i hi e => by have := hbk i e; omega))
          have HRUN := Lib.hid hrun
          have HRW4 := Lib.hid hrow4
          have r1 : (0 : Int) ≤ (j : Int) := by omega
          have r2 : (j : Int) < (n.length : Int) := by omega
          clear hx hy hr hA hbk F4 hrun hrow4 F2 HRW HF2 e0
          go_wp2_with (at_builtin; refine wpList_append_run (by rfl) (.tmp 31) (.tmp 32) 41 (by rfl) _ w4 (by exact HRUN.out) ?_)
          go_roundg (n.length - (j + 1))
          case measure => rw [HG.out]; omega
          case rel => exact ⟨j + 1, l ++ r, a4, c4, rfl, by omega, by rw [List.length_append], by go_num, by rw [HFT.out, HL.out], by rw [List.length_append]; exact HRW4.out, HF4.out⟩
        · obtain rfl : j = n.length := by omega
          have hl2 := HL.out
          rw [List.take_length] at hl2
          have HAT := Lib.hid (HRW.out.at F2)
          have HL2 := Lib.hid hl2
          clear hl2 HRW
          go_wp2_with fail
          go_ret
          exact ⟨⟨_, rfl, by rw [← HL2.out]; exact HAT.out⟩, HF2.out⟩
end Go.Proofs.YtgffhiopbnkjbaaGreatDoor

namespace Go.Q
open Go Go.RowKit
def partKeys (r : List Part) : List (List UInt8) := r.map fun p => attrKeyS p.o p.b
/-- What a step means. -/
def rdnKeyS (r : List Part) : List UInt8 := Lib.join (Lib.compact (sortS (partKeys r))) [43]
theorem join_len (c : UInt8) (M : Nat) : ∀ ks : List (List UInt8), (∀ k ∈ ks, k.length ≤ M) → (Lib.join ks [c]).length ≤ ks.length * (M + 1)
  | [], _ => by simp [Lib.join]
  | [k], h => by
    have := h k (by simp)
    simp [Lib.join]
    omega
  | k :: l :: t, h => by
    have h1 := h k (by simp)
    have ih := join_len c M (l :: t) (fun x hx => h x (by simp [List.mem_cons.1 hx]))
    have e : Lib.join (k :: l :: t) [c] = k ++ ([c] ++ Lib.join (l :: t) [c]) := by simp [Lib.join, List.intercalate]
    rw [e]
    simp only [List.length_append, List.length_cons, List.length_nil] at ih ⊢
    rw [Nat.add_mul (t.length + 1) 1 (M + 1)]
    omega
theorem compact_mem {zs : List (List UInt8)} {x : List UInt8} (h : x ∈ Lib.compact zs) : x ∈ zs := by
  unfold Lib.compact Lib.compactUpTo at h
  obtain ⟨i, hi, rfl⟩ := List.mem_map.1 h
  have hi2 := List.mem_range.1 (List.mem_filter.1 hi).1
  simp [hi2]
theorem sort_mem {zs : List (List UInt8)} {x : List UInt8} (h : x ∈ sortS zs) : x ∈ zs := by
  unfold sortS at h
  simpa using h
theorem attrKey_len {o : List Int} {b : List UInt8} (ho : oidOk o = true) (hb : b.length ≤ 10000000) : (attrKeyS o b).length ≤ 160001100 := by
  have hol := (Go.Proofs.YtgffhiopbnkjbaaGreatDoor.nums_ok ho).2.1
  have h1 := oidText_len (o := o) (fun n hn => by
    simp only [oidOk, Bool.and_eq_true, decide_eq_true_eq] at ho
    have := List.all_eq_true.1 ho.1.2 n hn
    simp only [arcOk, decide_eq_true_eq] at this
    omega)
  unfold attrKeyS
  rw [List.length_append]
  cases hr : textReadS b with
  | error e =>
    simp only [List.length_append, List.length_cons, List.length_nil, hexS_len]
    omega
  | ok kbn =>
    obtain ⟨k, t, n⟩ := kbn
    have h2 := (textRead_ok hr).2
    have h3 := foldKey_len k t
    simp only [List.length_append, List.length_cons, List.length_nil, hexS_len]
    omega
end Go.Q
namespace Go.Proofs.YtgffhiopbnkjbaaGreatDoor
open Go Go.RowKit Go.Q

set_option maxRecDepth 20000 in
set_option maxHeartbeats 2000000 in
theorem rdnKey_any (v : Value) (l : List Part) (w : World) (h : Attrs w v l) (hf : fewB l) (ho : ∀ p ∈ l, oidOk p.o = true) (hln : l.length ≤ 100) (hE : Env w) :
    Calls Tryz.prog 78 #[v] w fun e w' => e = .returned (str (rdnKeyS l)) ∧ Fr (fun _ => False) w w' := by
  have H := Lib.hid h
  have HE := Lib.hid hE
  have HO := Lib.hid ho
  obtain ⟨a, cap, rfl, hc, hm, -⟩ := h
  have hkl : ∀ k ∈ Lib.compact (sortS (partKeys l)), k.length ≤ 160001100 := fun k hk => by
    have h1 := sort_mem (compact_mem hk)
    obtain ⟨p, hp, rfl⟩ := List.mem_map.1 h1
    exact attrKey_len (ho p hp) (hf p hp)
  have HKL := Lib.hid hkl
  clear hE ho hkl
  go_enter Tryz.func78, Tryz.ntmps78
  go_wp2_with fail
  go_loopg [3, 8] l.length (fun g u i wr => ∃ (j : Nat) (au : Option Addr) (cu : Nat), g = l.length - j ∧ j ≤ l.length ∧ u = .slice au j cu ∧ i = .int .i64 j ∧ wr.ownsRow w.heap.size 9 1 (.slice au j cu) j ((partKeys (l.take j)).map str) ∧ Fr (fun _ => False) w wr)
  case atStart => exact ⟨0, none, 0, rfl, Nat.zero_le _, rfl, rfl, ⟨rfl, .inl ⟨rfl, rfl⟩⟩, Fr.refl _⟩
  case round =>
    obtain ⟨j, au, cu, hg, hj, rfl, rfl, hown, F⟩ := hrel
    have HG := Lib.hid hg
    have HOW := Lib.hid hown
    have HF := Lib.hid F
    clear hg hown
    by_cases hjl : j < l.length
    · obtain ⟨a0, cap0, he, _, _, hx⟩ := H.out.old F
      simp only [Value.slice.injEq, true_and] at he
      obtain ⟨rfl, rfl⟩ := he
      obtain ⟨b, off, rfl, hy⟩ := hx (by omega)
      obtain ⟨p, hp⟩ : ∃ p, l[j]? = some p := ⟨_, List.getElem?_eq_getElem hjl⟩
      obtain ⟨x, y, e1, e2, hpx, hpy⟩ := hy j p hp
      have hpb := hf p (List.mem_of_getElem? hp)
      have hpo := HO.out p (List.mem_of_getElem? hp)
      have r1 : (0 : Int) ≤ (j : Int) := by omega
      have r2 : (j : Int) < (l.length : Int) := by omega
      obtain ⟨ax, cx, rfl, -⟩ := Ints.form hpx
      obtain ⟨ay, cy, rfl, -⟩ := Vals.form hpy
      have e1' : wr.cell? ⟨b, off + j * 2, none⟩ = some (.slice ax p.o.length cx) := by rw [Nat.mul_comm]; exact e1
      have e2' : wr.cell? ⟨b, off + j * 2 + 1, none⟩ = some (.slice ay p.b.length cy) := by rw [Nat.mul_comm]; exact e2
      have HP := Lib.hid hp
      have HPX := Lib.hid hpx
      have HPY := Lib.hid hpy
      clear hx hy hp F hpx hpy
      go_upto_region 5 with fail
      have BZ := Blk.new wr 39 #[.slice ax p.o.length cx, .slice ay p.b.length cy]
      have F1 : Fr (fun _ => False) wr (wr.alloc (.cells #[.slice ax p.o.length cx, .slice ay p.b.length cy] 39)) := (Fr.refl wr).alloc _
      have HK := Lib.hid (attrKey_any _ _ p.o p.b _ (HPX.out.old F1) (HPY.out.old F1) hpo hpb ((HE.out.old HF.out).old F1))
      have HOW1 := Lib.hid (ownsRow_fr HOW.out F1 (fun _ _ h => h))
      have HF1 := Lib.hid (HF.out.trans F1)
      clear e1 e2 e1' e2' HPX HPY HF F1 HOW
      generalize (wr.alloc (.cells #[.slice ax p.o.length cx, .slice ay p.b.length cy] 39)) = w1 at *
      have z0 := BZ.cell 0
      have z1 := BZ.cell 1
      simp at z0 z1
      have hpk : partKeys (l.take (j + 1)) = partKeys (l.take j) ++ [attrKeyS p.o p.b] := by
        unfold partKeys
        rw [List.take_add_one, HP.out]
        simp
      have HPK := Lib.hid hpk
      clear hpk
      generalize attrKeyS p.o p.b = ky at *
      go_wp2_with fail
      refine HK.out.mono ?_
      rintro e w2 ⟨rfl, F2⟩
      have F3 : Fr (fun _ => False) w2 (w2.alloc (.cells #[str ky] 9)) := (Fr.refl w2).alloc _
      have hs1 := HF1.out.size
      have hs2 := F2.size
      have hbk := (Vals.of_own HOW1.out).2
      obtain ⟨a', c', w4, hrun, hown4, F4, hk4⟩ := add_gen Tryz.underlying53 info9 rfl (by decide) (by decide) (ownsRow_fr HOW1.out F2 (fun _ _ h => h)) (by omega) F3 w2.heap.size [str ky] rfl (Blk.new w2 9 #[str ky]) (by simp [Value.oneCell']) (by omega)
      have HRUN := Lib.hid hrun
      have HOW4 := Lib.hid hown4
      have HF4 := Lib.hid ((HF1.out.trans F2).trans' F4 (fun i hi e => by have := (hbk i e).1; omega))
      clear F2 F3 hrun hown4 F4 hk4 hbk BZ z0 z1 HOW1 HF1
      go_wp2_with (at_builtin; refine wpList_append_run (by rfl) (.tmp 12) (.tmp 15) 53 (by rfl) _ w4 (by exact HRUN.out) ?_)
      go_roundg (l.length - (j + 1))
      case measure => rw [HG.out]; omega
      case rel => exact ⟨j + 1, a', c', rfl, by omega, rfl, by go_num, by rw [HPK.out, List.map_append]; exact HOW4.out, HF4.out⟩
    · obtain rfl : j = l.length := by omega
      have hown := HOW.out
      rw [List.take_length] at hown
      have hpl : (partKeys l).length = l.length := by simp [partKeys]
      have hres : rdnKeyS l = Lib.join (Lib.compact (sortS (partKeys l))) [43] := rfl
      have HRES := Lib.hid hres
      have HS := Lib.hid (strSort_any (partKeys l) (by rw [hpl]; exact hown) (by omega))
      have hsl : (sortS (partKeys l)).length = l.length := by simp [sortS, hpl]
      have hbk := (Vals.of_own hown).2
      have HSL := Lib.hid hsl
      clear hpl hres hown HOW hsl
      generalize partKeys l = pk at *
      go_wp2_with fail
      refine HS.out.mono ?_
      rintro e w2 ⟨rfl, hown2, F2⟩
      have HF2 := Lib.hid (F.trans' F2 (fun i hi e => by have := (hbk i e).1; omega))
      have HC := Lib.hid (strCompact_any (sortS pk) hown2 (by rw [HSL.out]; omega))
      have hbk2 := (Vals.of_own hown2).2
      have hcl := Lib.compact_length_le (sortS pk)
      rw [HSL.out] at hcl
      clear F2 hown2 HS hbk
      generalize sortS pk = sk at *
      go_wp2_with fail
      refine HC.out.mono ?_
      rintro e w3 ⟨⟨v3, rfl, hown3⟩, F3⟩
      have HF3 := Lib.hid (HF2.out.trans' F3 (fun i hi e => by have := (hbk2 i e).1; omega))
      have hv3 := (Vals.of_own hown3).1
      have hjl2 := join_len 43 160001100 (Lib.compact sk) HKL.out
      have HJ := Lib.hid (strJoin_any (Lib.compact sk) 43 v3 w3 hv3 (by omega) (by
        have : (Lib.compact sk).length * (160001100 + 1) ≤ 100 * (160001100 + 1) := Nat.mul_le_mul_right _ (by omega)
        omega))
      obtain ⟨a3, m3, c3, rfl, -⟩ := own_shape hown3
      clear F3 hown3 HC hbk2 hv3 hjl2
      generalize Lib.compact sk = ck at *
      go_wp2_with fail
      refine HJ.out.mono ?_
      rintro e w4 ⟨rfl, F4⟩
      go_wp2_with fail
      go_ret
      exact ⟨by rw [HRES.out]; rfl, HF3.out.trans F4⟩
end Go.Proofs.YtgffhiopbnkjbaaGreatDoor

namespace Go.Q
open Go Go.RowKit
/-- What a name means. -/
def nameKeyS (n : List (List Part)) : List UInt8 := Lib.join (n.map rdnKeyS) [47]
theorem steps_oids : ∀ (l : List Part) (last : Option (List UInt8)), (stepsS last l).isSome = true → ∀ p ∈ l, oidOk p.o = true
  | [], _, _, p, hp => by cases hp
  | q :: t, last, h, p, hp => by
    simp only [stepsS] at h
    cases hq : attrS q.o q.b with
    | none => rw [hq] at h; cases h
    | some x =>
      rw [hq] at h
      have hqo : oidOk q.o = true := by
        unfold attrS at hq
        split at hq
        · rename_i hh; rw [Bool.and_eq_true] at hh; exact hh.1
        · cases hq
      have ht : (stepsS (some x) t).isSome = true := by
        cases last with
        | none => simpa using h
        | some y =>
          by_cases hc : 0 ≤ cmpS y x
          · simp [hc] at h
          · simpa [hc] using h
      rcases List.mem_cons.1 hp with rfl | hm
      · exact hqo
      · exact steps_oids t (some x) ht p hm
theorem rdn_oids {l : List Part} (h : (rdnS l).isSome = true) : l.length ≤ 16 ∧ ∀ p ∈ l, oidOk p.o = true := by
  unfold rdnS at h
  split at h
  · cases h
  · exact ⟨by omega, steps_oids l none h⟩
theorem rdnKey_len {l : List Part} (hf : fewB l) (h : (rdnS l).isSome = true) : (rdnKeyS l).length ≤ 2560017616 := by
  obtain ⟨h1, h2⟩ := rdn_oids h
  have hcl := Lib.compact_length_le (sortS (partKeys l))
  have hsl : (sortS (partKeys l)).length = l.length := by simp [sortS, partKeys]
  rw [hsl] at hcl
  have := join_len 43 160001100 (Lib.compact (sortS (partKeys l))) (fun k hk => by
    have h3 := sort_mem (compact_mem hk)
    obtain ⟨p, hp, rfl⟩ := List.mem_map.1 h3
    exact attrKey_len (h2 p hp) (hf p hp))
  unfold rdnKeyS
  have h4 : (Lib.compact (sortS (partKeys l))).length * (160001100 + 1) ≤ 16 * (160001100 + 1) := Nat.mul_le_mul_right _ (by omega)
  omega
theorem name_rdns {n : List (List Part)} (h : nameOk n = true) : n.length ≤ 64 ∧ ∀ r ∈ n, (rdnS r).isSome = true := by
  unfold nameOk at h
  rw [Bool.and_eq_true] at h
  exact ⟨of_decide_eq_true h.1, fun r hr => List.all_eq_true.1 h.2 r hr⟩
/-- Do two names mean the same? -/
def nameSameS (a b : List (List Part)) : Bool := nameOk a && (nameOk b && decide (nameKeyS a = nameKeyS b))
end Go.Q
namespace Go.Proofs.YtgffhiopbnkjbaaGreatDoor
open Go Go.RowKit Go.Q

set_option maxRecDepth 20000 in
set_option maxHeartbeats 2000000 in
theorem nameKey_any (v : Value) (n : List (List Part)) (w : World) (h : NameAt w v n) (hf : ∀ r ∈ n, fewB r) (hok : nameOk n = true) (hE : Env w) :
    Calls Tryz.prog 39 #[v] w fun e w' => e = .returned (.tuple #[str (nameKeyS n), .int .i64 0]) ∧ Fr (fun _ => False) w w' := by
  have H := Lib.hid h
  have HR := right_any v n w h hf
  rw [hok] at HR
  have HRI := Lib.hid HR
  obtain ⟨hn64, hrd⟩ := name_rdns hok
  have HRD := Lib.hid hrd
  have HE := Lib.hid hE
  obtain ⟨a, cap, rfl, hc, hm, -⟩ := h
  have hkl : ∀ k ∈ n.map rdnKeyS, k.length ≤ 2560017616 := fun k hk => by
    obtain ⟨r, hr, rfl⟩ := List.mem_map.1 hk
    exact rdnKey_len (hf r hr) (hrd r hr)
  have hjl := join_len 47 2560017616 (n.map rdnKeyS) hkl
  rw [List.length_map] at hjl
  have hjl2 : n.length * (2560017616 + 1) ≤ 64 * (2560017616 + 1) := Nat.mul_le_mul_right _ hn64
  have hjl3 : (Lib.join (n.map rdnKeyS) [47]).length ≤ 100000000000000 := by omega
  have HJL := Lib.hid hjl3
  clear hE hkl hjl hjl2 hjl3 hok HR hrd
  go_enter Tryz.func39, Tryz.ntmps39
  go_wp2_with fail
  refine HRI.out.mono ?_
  rintro e w0 ⟨rfl, F0⟩
  have HF0 := Lib.hid F0
  clear F0 HRI
  go_wp2_with fail
  go_loopg [4, 12] n.length (fun g u i wr => ∃ (j : Nat) (au : Option Addr) (cu : Nat), g = n.length - j ∧ j ≤ n.length ∧ u = .slice au j cu ∧ i = .int .i64 j ∧ wr.ownsRow w0.heap.size 9 1 (.slice au j cu) j (((n.take j).map rdnKeyS).map str) ∧ Fr (fun _ => False) w0 wr)
  case atStart => exact ⟨0, none, 0, rfl, Nat.zero_le _, rfl, rfl, ⟨rfl, .inl ⟨rfl, rfl⟩⟩, Fr.refl _⟩
  case round =>
    obtain ⟨j, au, cu, hg, hj, rfl, rfl, hown, F⟩ := hrel
    have HG := Lib.hid hg
    have HOW := Lib.hid hown
    have HF := Lib.hid F
    have HFF := Lib.hid (HF0.out.trans F)
    clear hg hown
    by_cases hjl : j < n.length
    · obtain ⟨a0, cap0, he, _, _, hx⟩ := H.out.old HFF.out
      simp only [Value.slice.injEq, true_and] at he
      obtain ⟨rfl, rfl⟩ := he
      obtain ⟨b, off, rfl, hy⟩ := hx (by omega)
      obtain ⟨r, hr⟩ : ∃ r, n[j]? = some r := ⟨_, List.getElem?_eq_getElem hjl⟩
      obtain ⟨x, e1, hA⟩ := hy j r hr
      have hmem := List.mem_of_getElem? hr
      have hri := HRD.out r hmem
      obtain ⟨hr16, hro⟩ := rdn_oids hri
      have HK := Lib.hid (rdnKey_any x r wr hA (hf r hmem) hro (by omega) (HE.out.old HFF.out))
      have hpk : (n.take (j + 1)).map rdnKeyS = (n.take j).map rdnKeyS ++ [rdnKeyS r] := by
        rw [List.take_add_one, hr]
        simp
      have HPK := Lib.hid hpk
      have r1 : (0 : Int) ≤ (j : Int) := by omega
      have r2 : (j : Int) < (n.length : Int) := by omega
      clear hx hy hr hA hmem hri hro F hpk
      generalize rdnKeyS r = ky at *
      go_wp2_with fail
      refine HK.out.mono ?_
      rintro e w2 ⟨rfl, F2⟩
      have F3 : Fr (fun _ => False) w2 (w2.alloc (.cells #[str ky] 9)) := (Fr.refl w2).alloc _
      have hs1 := HF.out.size
      have hs2 := F2.size
      have hbk := (Vals.of_own HOW.out).2
      obtain ⟨a', c', w4, hrun, hown4, F4, hk4⟩ := add_gen Tryz.underlying53 info9 rfl (by decide) (by decide) (ownsRow_fr HOW.out F2 (fun _ _ h => h)) (by omega) F3 w2.heap.size [str ky] rfl (Blk.new w2 9 #[str ky]) (by simp [Value.oneCell']) (by omega)
      have HRUN := Lib.hid hrun
      have HOW4 := Lib.hid hown4
      have HF4 := Lib.hid ((HF.out.trans F2).trans' F4 (fun i hi e => by have := (hbk i e).1; omega))
      clear F2 F3 hrun hown4 F4 hk4 hbk HOW HF HK
      go_wp2_with (at_builtin; refine wpList_append_run (by rfl) (.tmp 16) (.tmp 19) 53 (by rfl) _ w4 (by exact HRUN.out) ?_)
      go_roundg (n.length - (j + 1))
      case measure => rw [HG.out]; omega
      case rel => exact ⟨j + 1, a', c', rfl, by omega, rfl, by go_num, by rw [HPK.out, List.map_append]; exact HOW4.out, HF4.out⟩
    · obtain rfl : j = n.length := by omega
      have hown := HOW.out
      rw [List.take_length] at hown
      have hv3 := (Vals.of_own hown).1
      have HJ := Lib.hid (strJoin_any (n.map rdnKeyS) 47 _ wr hv3 (by rw [List.length_map]; omega) HJL.out)
      have hres : nameKeyS n = Lib.join (n.map rdnKeyS) [47] := rfl
      have HRES := Lib.hid hres
      clear hown hv3 hres HOW
      go_wp2_with fail
      refine HJ.out.mono ?_
      rintro e w4 ⟨rfl, F4⟩
      go_wp2_with fail
      refine bodyPost_ret (v := .tuple #[str (Lib.join (n.map rdnKeyS) [47]), .int .i64 0]) (by simp [results, Tryz.results39, go_sem]) rfl ⟨by rw [HRES.out], HFF.out.trans F4⟩

set_option maxRecDepth 20000 in
theorem nameKey_bad (v : Value) (n : List (List Part)) (w : World) (h : NameAt w v n) (hf : ∀ r ∈ n, fewB r) (hok : nameOk n = false) :
    Calls Tryz.prog 39 #[v] w fun e w' => e = .returned (.tuple #[str [], .int .i64 1]) ∧ Fr (fun _ => False) w w' := by
  have HR := right_any v n w h hf
  rw [hok] at HR
  have HRI := Lib.hid HR
  clear h hok HR
  go_enter Tryz.func39, Tryz.ntmps39
  go_wp2_with fail
  refine HRI.out.mono ?_
  rintro e w0 ⟨rfl, F0⟩
  go_wp2_with fail
  exact bodyPost_ret (v := .tuple #[str [], .int .i64 1]) (by simp [results, Tryz.results39, go_sem]) rfl ⟨rfl, F0⟩

/-- Key, in one. -/
def keyOut (n : List (List Part)) : Value := if nameOk n = true then .tuple #[str (nameKeyS n), .int .i64 0] else .tuple #[str [], .int .i64 1]
theorem nameKeyAll_any (v : Value) (n : List (List Part)) (w : World) (h : NameAt w v n) (hf : ∀ r ∈ n, fewB r) (hE : Env w) :
    Calls Tryz.prog 39 #[v] w fun e w' => e = .returned (keyOut n) ∧ Fr (fun _ => False) w w' := by
  cases hok : nameOk n with
  | true =>
    have e : keyOut n = .tuple #[str (nameKeyS n), .int .i64 0] := if_pos hok
    rw [e]
    exact nameKey_any v n w h hf hok hE
  | false =>
    have e : keyOut n = .tuple #[str [], .int .i64 1] := if_neg (by rw [hok]; simp)
    rw [e]
    exact nameKey_bad v n w h hf hok

set_option maxRecDepth 20000 in
set_option maxHeartbeats 1000000 in
theorem nameSame_any (v u : Value) (n m : List (List Part)) (w : World) (h : NameAt w v n) (hm : NameAt w u m) (hf : ∀ r ∈ n, fewB r) (hfm : ∀ r ∈ m, fewB r) (hE : Env w) :
    Calls Tryz.prog 16 #[v, u] w fun e w' => e = .returned (.bool (nameSameS n m)) ∧ Fr (fun _ => False) w w' := by
  have HK := Lib.hid (nameKeyAll_any v n w h hf hE)
  have HM := Lib.hid hm
  have HE := Lib.hid hE
  have hs : nameSameS n m = (nameOk n && (nameOk m && decide (nameKeyS n = nameKeyS m))) := rfl
  have HS := Lib.hid hs
  clear h hm hE hs
  go_enter Tryz.func16, Tryz.ntmps16
  go_wp2_with fail
  refine HK.out.mono ?_
  rintro e w1 ⟨rfl, F1⟩
  have HK2 := Lib.hid (nameKeyAll_any u m w1 (HM.out.old F1) hfm (HE.out.old F1))
  clear HK
  cases hok : nameOk n with
  | false =>
    have e : keyOut n = .tuple #[str [], .int .i64 1] := if_neg (by rw [hok]; simp)
    rw [e]
    rw [hok] at HS
    clear hok e
    go_wp2_with fail
    refine HK2.out.mono ?_
    rintro e w2 ⟨rfl, F2⟩
    cases hok2 : nameOk m with
    | false =>
      have e : keyOut m = .tuple #[str [], .int .i64 1] := if_neg (by rw [hok2]; simp)
      rw [e]
      clear hok2 e
      go_wp2_with fail
      go_ret
      exact ⟨by rw [HS.out]; rfl, F1.trans F2⟩
    | true =>
      have e : keyOut m = .tuple #[str (nameKeyS m), .int .i64 0] := if_pos hok2
      rw [e]
      clear hok2 e
      go_wp2_with fail
      go_ret
      exact ⟨by rw [HS.out]; rfl, F1.trans F2⟩
  | true =>
    have e : keyOut n = .tuple #[str (nameKeyS n), .int .i64 0] := if_pos hok
    rw [e]
    rw [hok] at HS
    clear hok e
    go_wp2_with fail
    refine HK2.out.mono ?_
    rintro e w2 ⟨rfl, F2⟩
    cases hok2 : nameOk m with
    | false =>
      have e : keyOut m = .tuple #[str [], .int .i64 1] := if_neg (by rw [hok2]; simp)
      rw [e]
      rw [hok2] at HS
      clear hok2 e
      go_wp2_with fail
      go_ret
      exact ⟨by rw [HS.out]; rfl, F1.trans F2⟩
    | true =>
      have e : keyOut m = .tuple #[str (nameKeyS m), .int .i64 0] := if_pos hok2
      rw [e]
      rw [hok2] at HS
      clear hok2 e
      generalize nameKeyS n = kn at *
      generalize nameKeyS m = km at *
      by_cases hkk : kn = km
      · have hq2 : (kn == km) = true := by simpa using hkk
        have HKK := Lib.hid (decide_eq_true hkk)
        clear hkk
        go_wp2_with fail
        go_ret
        exact ⟨by rw [HS.out, HKK.out]; rfl, F1.trans F2⟩
      · have hq2 : (kn == km) = false := by simpa using hkk
        have HKK := Lib.hid (decide_eq_false hkk)
        clear hkk
        go_wp2_with fail
        go_ret
        exact ⟨by rw [HS.out, HKK.out]; rfl, F1.trans F2⟩
end Go.Proofs.YtgffhiopbnkjbaaGreatDoor

namespace Go.Q
open Go Go.RowKit
theorem cmpI_drop {o p : List Int} {j : Nat} {x y : Int} (hx : o[j]? = some x) (hy : p[j]? = some y) : cmpI (o.drop j) (p.drop j) = if x < y then -1 else if y < x then 1 else cmpI (o.drop (j + 1)) (p.drop (j + 1)) := by
  have h1 : o.drop j = x :: o.drop (j + 1) := by
    obtain ⟨h, rfl⟩ := List.getElem?_eq_some_iff.1 hx
    exact List.drop_eq_getElem_cons h
  have h2 : p.drop j = y :: p.drop (j + 1) := by
    obtain ⟨h, rfl⟩ := List.getElem?_eq_some_iff.1 hy
    exact List.drop_eq_getElem_cons h
  rw [h1, h2]
  rfl
/-- The text of a part, if it is of a type, and a text. -/
def partTextS (ks : List Int) (p : Part) : Option (List UInt8) :=
  if ks ≠ [] ∧ p.o ≠ ks then none else match textReadS p.b with
    | .ok (k, t, _) => some (utf8S k t)
    | .error _ => none
/-- The texts of a name. -/
def textsS (n : List (List Part)) (ks : List Int) : List (List UInt8) := if nameOk n = true then n.flatten.filterMap (partTextS ks) else []
theorem filterMap_next {l : List Part} {j : Nat} {p : Part} (ks : List Int) (h : l[j]? = some p) : (l.take (j + 1)).filterMap (partTextS ks) = (l.take j).filterMap (partTextS ks) ++ (partTextS ks p).toList := by
  rw [List.take_add_one, h, List.filterMap_append]
  cases hp : partTextS ks p <;> simp [hp]
end Go.Q
namespace Go.Proofs.YtgffhiopbnkjbaaGreatDoor
open Go Go.RowKit Go.Q

set_option maxRecDepth 20000 in
set_option maxHeartbeats 1000000 in
theorem sliceCompare_any (v u : Value) (o p : List Int) (w : World) (h : Ints w v o) (hu : Ints w u p) :
    Calls Tryz.prog 93 #[v, u] w fun e w' => e = .returned (.int .i64 (cmpI o p)) ∧ w = w' := by
  obtain ⟨a, cap, rfl, hc1, hm1, hx⟩ := Ints.form h
  obtain ⟨b, cbp, rfl, hc2, hm2, hy⟩ := Ints.form hu
  have HX := Lib.hid hx
  have HY := Lib.hid hy
  unfold maxLen at hm1 hm2
  clear h hu hx hy
  go_enter Tryz.func93, Tryz.ntmps93
  go_wp2_with fail
  go_loopg [11] o.length (fun g i wr => ∃ j : Nat, g = o.length - j ∧ j ≤ o.length ∧ j ≤ p.length ∧ i = .int .i64 j ∧ cmpI o p = cmpI (o.drop j) (p.drop j) ∧ wr = w)
  case atStart => exact ⟨0, rfl, Nat.zero_le _, Nat.zero_le _, rfl, rfl, rfl⟩
  case round =>
    obtain ⟨j, hg, hj, hjp, rfl, hE, rfl⟩ := hrel
    have HG := Lib.hid hg
    have HE := Lib.hid hE
    clear hg hE
    by_cases hjl : j < o.length
    · obtain ⟨ba, oa, rfl, ha⟩ := HX.out (by omega)
      obtain ⟨x, hxj⟩ : ∃ x, o[j]? = some x := ⟨_, List.getElem?_eq_getElem hjl⟩
      have e1 := ha j x hxj
      have r1 : (0 : Int) ≤ (j : Int) := by omega
      have r2 : (j : Int) < (o.length : Int) := by omega
      by_cases hjl2 : j < p.length
      · obtain ⟨bb, ob, rfl, hb⟩ := HY.out (by omega)
        obtain ⟨y, hyj⟩ : ∃ y, p[j]? = some y := ⟨_, List.getElem?_eq_getElem hjl2⟩
        have e2 := hb j y hyj
        have r3 : ¬ (p.length : Int) ≤ (j : Int) := by omega
        have r4 : (j : Int) < (p.length : Int) := by omega
        have hcd := Lib.hid (cmpI_drop hxj hyj)
        have HC := Lib.hid (show Calls Tryz.prog 128 #[.int .i64 x, .int .i64 y] wr fun e w' => e = .returned (.int .i64 (Lib.compareInt x y)) ∧ wr = w' from (Go.Proofs.Tryz.cmp_Compare_int x y wr).mono (fun _ _ h => ⟨h.1, h.2.symm⟩))
        clear ha hb hxj hyj
        have hcase : (x < y ∧ Lib.compareInt x y = -1) ∨ (y < x ∧ Lib.compareInt x y = 1) ∨ (x = y ∧ Lib.compareInt x y = 0) := by
          unfold Lib.compareInt
          by_cases h1 : x < y
          · left; refine ⟨h1, ?_⟩; simp [h1]
          · by_cases h2 : y < x
            · right; left; refine ⟨h2, ?_⟩; simp [h1, h2]
            · right; right; refine ⟨by omega, ?_⟩; simp [h1, h2]
        rcases hcase with ⟨h1, h2⟩ | ⟨h1, h2⟩ | ⟨h1, h2⟩
        · rw [h2] at HC
          have hres : cmpI o p = -1 := by rw [HE.out, hcd.out, if_pos h1]
          have HRES := Lib.hid hres
          clear hres h1 h2
          go_wp2_with fail
          refine HC.out.mono ?_
          rintro e w' ⟨rfl, rfl⟩
          go_wp2_with fail
          go_ret
          exact ⟨by rw [HRES.out]; rfl, rfl⟩
        · rw [h2] at HC
          have hres : cmpI o p = 1 := by rw [HE.out, hcd.out, if_neg (by omega), if_pos h1]
          have HRES := Lib.hid hres
          clear hres h1 h2
          go_wp2_with fail
          refine HC.out.mono ?_
          rintro e w' ⟨rfl, rfl⟩
          go_wp2_with fail
          go_ret
          exact ⟨by rw [HRES.out]; rfl, rfl⟩
        · rw [h2] at HC
          have hres : cmpI o p = cmpI (o.drop (j + 1)) (p.drop (j + 1)) := by rw [HE.out, hcd.out, if_neg (by omega), if_neg (by omega)]
          have HRES := Lib.hid hres
          clear hres h1 h2
          go_wp2_with fail
          refine HC.out.mono ?_
          rintro e w' ⟨rfl, rfl⟩
          go_wp2_with fail
          go_roundg (o.length - (j + 1))
          case measure => rw [HG.out]; omega
          case rel => exact ⟨j + 1, rfl, by omega, by omega, by go_num, HRES.out, rfl⟩
      · have r3 : (p.length : Int) ≤ (j : Int) := by omega
        have hres : cmpI o p = 1 := by
          have h1 : o.drop j = x :: o.drop (j + 1) := by
            obtain ⟨h, rfl⟩ := List.getElem?_eq_some_iff.1 hxj
            exact List.drop_eq_getElem_cons h
          have h2 : p.drop j = [] := List.drop_eq_nil_of_le (by omega)
          rw [HE.out, h1, h2]
          rfl
        have HRES := Lib.hid hres
        clear hres ha hxj
        go_wp2_with fail
        go_ret
        exact ⟨by rw [HRES.out]; rfl, rfl⟩
    · obtain rfl : j = o.length := by omega
      have h1 : o.drop o.length = [] := List.drop_length
      by_cases hlt : o.length < p.length
      · have r3 : (o.length : Int) < (p.length : Int) := by omega
        have hres : cmpI o p = -1 := by
          rw [HE.out, h1]
          have : p.drop o.length ≠ [] := fun e => by have := drop_nil e; omega
          cases hd : p.drop o.length with
          | nil => exact absurd hd this
          | cons y t => rfl
        have HRES := Lib.hid hres
        clear hres h1
        go_wp2_with fail
        go_ret
        exact ⟨by rw [HRES.out]; rfl, rfl⟩
      · have r3 : ¬ (o.length : Int) < (p.length : Int) := by omega
        have hres : cmpI o p = 0 := by
          have h2 : p.drop o.length = [] := List.drop_eq_nil_of_le (by omega)
          rw [HE.out, h1, h2]
          rfl
        have HRES := Lib.hid hres
        clear hres h1
        go_wp2_with fail
        go_ret
        exact ⟨by rw [HRES.out]; rfl, rfl⟩

theorem oidCompare_any (v u : Value) (o p : List Int) (w : World) (h : Ints w v o) (hu : Ints w u p) :
    Calls Tryz.prog 60 #[v, u] w fun e w' => e = .returned (.int .i64 (cmpI o p)) ∧ w = w' := by
  have H := Lib.hid (sliceCompare_any v u o p w h hu)
  clear h hu
  go_enter Tryz.func60, Tryz.ntmps60
  go_wp2_with fail
  refine H.out.mono ?_
  rintro e w' ⟨rfl, rfl⟩
  go_wp2_with fail
  go_ret
  exact ⟨rfl, rfl⟩

set_option maxRecDepth 20000 in
set_option maxHeartbeats 2000000 in
theorem texts_any (v u : Value) (n : List (List Part)) (ks : List Int) (w : World) (h : NameAt w v n) (hu : Ints w u ks) (hf : ∀ r ∈ n, fewB r) (hE : Env w) :
    Calls Tryz.prog 29 #[v, u] w fun e w' => (∃ x, e = .returned x ∧ Strs w' x (textsS n ks)) ∧ Fr (fun _ => False) w w' := by
  have HR := Lib.hid (right_any v n w h hf)
  have H := Lib.hid h
  have HU := Lib.hid hu
  have HE := Lib.hid hE
  obtain ⟨a, cap, rfl, -⟩ := h
  obtain ⟨b, cbp, rfl, -⟩ := Ints.form hu
  clear hu hE
  cases hok : nameOk n with
  | false =>
    have hres : textsS n ks = [] := by unfold textsS; rw [if_neg (by rw [hok]; simp)]
    have HRES := Lib.hid hres
    rw [hok] at HR
    clear hres hok
    go_enter Tryz.func29, Tryz.ntmps29
    go_wp2_with fail
    refine HR.out.mono ?_
    rintro e w1 ⟨rfl, F1⟩
    go_wp2_with fail
    go_ret
    exact ⟨⟨_, rfl, by rw [HRES.out]; exact Vals.nil w1⟩, F1⟩
  | true =>
    have hres : textsS n ks = n.flatten.filterMap (partTextS ks) := by unfold textsS; rw [if_pos hok]
    have HRES := Lib.hid hres
    obtain ⟨hn64, hrd⟩ := name_rdns hok
    have hrl : ∀ r ∈ n, 0 < r.length ∧ r.length ≤ 1000 := fun r hr => by
      have h1 := hrd r hr
      have h2 := (rdn_oids h1).1
      unfold rdnS at h1
      split at h1
      · cases h1
      · exact ⟨by omega, by omega⟩
    have hfl : ∀ p ∈ n.flatten, p.b.length ≤ 10000000 := fun p hp => by
      obtain ⟨r, hr, hpr⟩ := List.mem_flatten.1 hp
      exact hf r hr p hpr
    have hfn : n.flatten.length ≤ 64 * 1000 := by
      have : ∀ m : List (List Part), (∀ r ∈ m, r.length ≤ 1000) → m.flatten.length ≤ m.length * 1000 := by
        intro m
        induction m with
        | nil => intro _; simp
        | cons x t ih =>
          intro hm
          have h1 := hm x (by simp)
          have h2 := ih (fun r hr => hm r (by simp [hr]))
          simp only [List.flatten_cons, List.length_append, List.length_cons, Nat.add_mul]
          omega
      have h1 := this n (fun r hr => (hrl r hr).2)
      have h2 : n.length * 1000 ≤ 64 * 1000 := Nat.mul_le_mul_right _ hn64
      omega
    have HFL := Lib.hid hfl
    rw [hok] at HR
    have HRL := Lib.hid hrl
    clear hres hok hrd hfl hrl
    go_enter Tryz.func29, Tryz.ntmps29
    go_wp2_with fail
    refine HR.out.mono ?_
    rintro e w1 ⟨rfl, F1⟩
    have HCC := Lib.hid (concatRdn_any _ n w1 (H.out.old F1) (by omega) HRL.out)
    clear HR
    go_wp2_with fail
    refine HCC.out.mono ?_
    rintro e w2 ⟨⟨x2, rfl, hA2⟩, F2⟩
    have HA2 := Lib.hid hA2
    have HF2 := Lib.hid (F1.trans F2)
    obtain ⟨a2, c2, rfl⟩ := hA2.form
    clear hA2 HCC F1 F2
    generalize n.flatten = l at *
    go_wp2_with fail
    go_loopg [5, 18] l.length (fun g s i wr => ∃ (j : Nat) (ts : List (List UInt8)) (au : Option Addr) (cu : Nat), g = l.length - j ∧ j ≤ l.length ∧ s = .slice au ts.length cu ∧ i = .int .i64 j ∧ ts = (l.take j).filterMap (partTextS ks) ∧ ts.length ≤ j ∧ wr.ownsRow w2.heap.size 9 1 (.slice au ts.length cu) ts.length (ts.map str) ∧ Fr (fun _ => False) w2 wr ∧ Fr (fun _ => False) w wr)
    case atStart => exact ⟨0, [], none, 0, rfl, Nat.zero_le _, rfl, rfl, rfl, Nat.le_refl _, ⟨rfl, .inl ⟨rfl, rfl⟩⟩, Fr.refl _, HF2.out⟩
    case round =>
      obtain ⟨j, ts, au, cu, hg, hj, rfl, rfl, hts, htl, hown, F, FW⟩ := hrel
      have HG := Lib.hid hg
      have HTS := Lib.hid hts
      have HOW := Lib.hid hown
      have HF := Lib.hid F
      have HFW := Lib.hid FW
      clear hg hts hown
      by_cases hjl : j < l.length
      · obtain ⟨a0, cap0, he, _, _, hx⟩ := HA2.out.old F
        simp only [Value.slice.injEq, true_and] at he
        obtain ⟨rfl, rfl⟩ := he
        obtain ⟨bb, off, rfl, hy⟩ := hx (by omega)
        obtain ⟨p, hp⟩ : ∃ p, l[j]? = some p := ⟨_, List.getElem?_eq_getElem hjl⟩
        obtain ⟨x, y, e1, e2, hpx, hpy⟩ := hy j p hp
        have hpb := HFL.out p (List.mem_of_getElem? hp)
        have r1 : (0 : Int) ≤ (j : Int) := by omega
        have r2 : (j : Int) < (l.length : Int) := by omega
        obtain ⟨ax, cx, rfl, -⟩ := Ints.form hpx
        obtain ⟨ay, cy, rfl, -⟩ := Vals.form hpy
        have e1' : wr.cell? ⟨bb, off + j * 2, none⟩ = some (.slice ax p.o.length cx) := by rw [Nat.mul_comm]; exact e1
        have e2' : wr.cell? ⟨bb, off + j * 2 + 1, none⟩ = some (.slice ay p.b.length cy) := by rw [Nat.mul_comm]; exact e2
        have HFN := Lib.hid (filterMap_next ks hp)
        have HPX := Lib.hid hpx
        have HPY := Lib.hid hpy
        clear hx hy hp hpx hpy F FW
        go_upto_region 7 with fail
        have BZ := Blk.new wr 39 #[.slice ax p.o.length cx, .slice ay p.b.length cy]
        have F3 : Fr (fun _ => False) wr (wr.alloc (.cells #[.slice ax p.o.length cx, .slice ay p.b.length cy] 39)) := (Fr.refl wr).alloc _
        have HPX1 := Lib.hid (HPX.out.old F3)
        have HPY1 := Lib.hid (HPY.out.old F3)
        have HU1 := Lib.hid ((HU.out.old HFW.out).old F3)
        have HE1 := Lib.hid ((HE.out.old HFW.out).old F3)
        have HOW1 := Lib.hid (ownsRow_fr HOW.out F3 (fun _ _ h => h))
        have HF1 := Lib.hid (HF.out.trans F3)
        have HFW1 := Lib.hid (HFW.out.trans F3)
        clear e1 e2 e1' e2' HPX HPY F3 HOW HF HFW
        generalize (wr.alloc (.cells #[.slice ax p.o.length cx, .slice ay p.b.length cy] 39)) = w3 at *
        have z0 := BZ.cell 0
        have z1 := BZ.cell 1
        simp at z0 z1
        have skip : partTextS ks p = none → ts = (l.take (j + 1)).filterMap (partTextS ks) := fun h => by rw [HFN.out, h, ← HTS.out]; simp
        have HSK := Lib.hid skip
        clear skip
        by_cases hno : ks ≠ [] ∧ p.o ≠ ks
        · have hpt : partTextS ks p = none := by unfold partTextS; rw [if_pos hno]
          have hk0 : (0 : Int) < (ks.length : Int) := by
            have := List.length_pos_iff.2 hno.1
            omega
          have hcz : cmpI p.o ks ≠ 0 := fun e => hno.2 ((cmpI_zero _ _).1 e)
          have hq1 : (cmpI p.o ks == 0) = false := beq_eq_false_iff_ne.2 hcz
          have hq2 : (cmpI p.o ks != 0) = true := by simpa using hcz
          have HOC := Lib.hid (oidCompare_any _ _ p.o ks w3 HPX1.out HU1.out)
          have HSK2 := Lib.hid (HSK.out hpt)
          clear hpt hno hcz
          generalize cmpI p.o ks = cz at *
          go_wp2_with (first | (go_at_call 60; refine HOC.out.mono ?_; rintro e w' ⟨rfl, rfl⟩))
          go_roundg (l.length - (j + 1))
          case measure => rw [HG.out]; omega
          case rel => exact ⟨j + 1, ts, au, cu, rfl, by omega, rfl, by go_num, HSK2.out, by omega, HOW1.out, HF1.out, HFW1.out⟩
        · have hpt : partTextS ks p = match textReadS p.b with | .ok (k, t, _) => some (utf8S k t) | .error _ => none := by unfold partTextS; rw [if_neg hno]
          have HPT := Lib.hid hpt
          have HW := Lib.hid (words_any _ p.b w3 HPY1.out HE1.out (by omega))
          have hcase : (¬ (0 : Int) < (ks.length : Int)) ∨ ((0 : Int) < (ks.length : Int) ∧ cmpI p.o ks = 0) := by
            by_cases hk : ks = []
            · left; rw [hk]; simp
            · right
              refine ⟨by have := List.length_pos_iff.2 hk; omega, (cmpI_zero _ _).2 ?_⟩
              exact Classical.byContradiction fun h => hno ⟨hk, h⟩
          have HOC := Lib.hid (oidCompare_any _ _ p.o ks w3 HPX1.out HU1.out)
          clear hpt hno
          rcases hcase with hk0 | ⟨hk0, hcz⟩
          case' inr => rw [hcz] at HOC
          all_goals
            go_wp2_with (first | (go_at_call 60; refine HOC.out.mono ?_; rintro e w' ⟨rfl, rfl⟩))
            refine HW.out.mono ?_
            rintro e w4 ⟨hout, F4⟩
            unfold WordsOut at hout
            cases hr : textReadS p.b with
            | error x =>
              rw [hr] at hout
              subst hout
              have hpt : partTextS ks p = none := by rw [HPT.out, hr]
              have HSK2 := Lib.hid (HSK.out hpt)
              have F5 : Fr (fun _ => False) w4 (w4.alloc (.cells #[.int .i64 0, .slice none 0 0] 107)) := (Fr.refl w4).alloc _
              have HOW5 := Lib.hid (ownsRow_fr (ownsRow_fr HOW1.out F4 (fun _ _ h => h)) F5 (fun _ _ h => h))
              have HF5 := Lib.hid ((HF1.out.trans F4).trans F5)
              have HFW5 := Lib.hid ((HFW1.out.trans F4).trans F5)
              clear hr hpt F4 F5 HOW1 HF1 HFW1
              go_wp2_with fail
              go_roundg (l.length - (j + 1))
              case measure => rw [HG.out]; omega
              case rel => exact ⟨j + 1, ts, au, cu, rfl, by omega, rfl, by go_num, HSK2.out, by omega, HOW5.out, HF5.out, HFW5.out⟩
            | ok kbn =>
              obtain ⟨k, t, m⟩ := kbn
              rw [hr] at hout
              obtain ⟨ut, rfl, hbt⟩ := hout
              obtain ⟨hrt, htl2⟩ := textRead_ok hr
              obtain ⟨at_, ct, rfl, -⟩ := hbt.form
              have hpt : partTextS ks p = some (utf8S k t) := by rw [HPT.out, hr]
              have hnx : ts ++ [utf8S k t] = (l.take (j + 1)).filterMap (partTextS ks) := by rw [HFN.out, hpt, ← HTS.out]; rfl
              have HNX := Lib.hid hnx
              have F5 : Fr (fun _ => False) w4 (w4.alloc (.cells #[.int .i64 k, .slice at_ t.length ct] 107)) := (Fr.refl w4).alloc _
              have HUT := Lib.hid (textUtf8_any k _ t _ (hbt.old F5) ((HE1.out.old F4).old F5).tabs hrt (by omega))
              have HOW5 := Lib.hid (ownsRow_fr (ownsRow_fr HOW1.out F4 (fun _ _ h => h)) F5 (fun _ _ h => h))
              have HF5 := Lib.hid ((HF1.out.trans F4).trans F5)
              have HFW5 := Lib.hid ((HFW1.out.trans F4).trans F5)
              clear hr hpt hnx F4 F5 HOW1 HF1 HFW1 hbt hrt
              generalize utf8S k t = ut at *
              go_upto_region 9 with fail
              have BT := Blk.new w4 107 #[.int .i64 k, .slice at_ t.length ct]
              obtain ⟨yy, hyy⟩ : ∃ y, y = w4.heap.size := ⟨_, rfl⟩
              rw [← hyy] at BT ⊢
              clear hyy
              generalize (w4.alloc (.cells #[.int .i64 k, .slice at_ t.length ct] 107)) = w5 at *
              have t0 := BT.cell 0
              have t1 := BT.cell 1
              simp only [List.getElem?_toArray, List.getElem?_cons_succ, List.getElem?_cons_zero] at t0 t1
              go_wp2_with fail
              refine HUT.out.mono ?_
              rintro e w6 ⟨rfl, F6⟩
              have F7 : Fr (fun _ => False) w6 (w6.alloc (.cells #[str ut] 9)) := (Fr.refl w6).alloc _
              have hs1 := HF5.out.size
              have hs2 := F6.size
              have hbk := (Vals.of_own HOW5.out).2
              have hs0 := HF2.out.size
              obtain ⟨a', c', w8, hrun, hown8, F8, -⟩ := add_gen Tryz.underlying53 info9 rfl (by decide) (by decide) (ownsRow_fr HOW5.out F6 (fun _ _ h => h)) (by omega) F7 w6.heap.size [str ut] rfl (Blk.new w6 9 #[str ut]) (by simp [Value.oneCell']) (by omega)
              have HRUN := Lib.hid hrun
              have HOW8 := Lib.hid hown8
              have HFW8 := Lib.hid ((HFW5.out.trans F6).trans' F8 (fun i hi e => by have := (hbk i e).1; omega))
              have HF8 := Lib.hid ((HF5.out.trans F6).trans' F8 (fun i hi e => by have := (hbk i e).1; omega))
              clear F6 F7 hrun hown8 F8 hbk HOW5 HF5 HFW5 BT t0 t1 HUT
              go_wp2_with (at_builtin; refine wpList_append_run (by rfl) (.tmp 44) (.tmp 46) 53 (by rfl) _ w8 (by exact HRUN.out) ?_)
              go_roundg (l.length - (j + 1))
              case measure => rw [HG.out]; omega
              case rel => exact ⟨j + 1, ts ++ [ut], a', c', rfl, by omega, by rw [List.length_append]; rfl, by go_num, HNX.out, by rw [List.length_append]; simp only [List.length_singleton]; omega, by rw [List.length_append, List.map_append]; exact HOW8.out, HF8.out, HFW8.out⟩
      · obtain rfl : j = l.length := by omega
        have hall : ts = l.filterMap (partTextS ks) := by rw [HTS.out, List.take_length]
        have HALL := Lib.hid hall
        have hv := Lib.hid (Vals.of_own HOW.out).1
        clear hall
        go_wp2_with fail
        go_ret
        exact ⟨⟨_, rfl, by rw [HRES.out, ← HALL.out]; exact hv.out⟩, FW⟩
end Go.Proofs.YtgffhiopbnkjbaaGreatDoor

namespace Go.Q
open Go Go.RowKit
theorem cmpS_drop {a b : List UInt8} {j : Nat} {x y : UInt8} (hx : a[j]? = some x) (hy : b[j]? = some y) : cmpS (a.drop j) (b.drop j) = if x.toNat < y.toNat then -1 else if y.toNat < x.toNat then 1 else cmpS (a.drop (j + 1)) (b.drop (j + 1)) := by
  have h1 : a.drop j = x :: a.drop (j + 1) := by
    obtain ⟨h, rfl⟩ := List.getElem?_eq_some_iff.1 hx
    exact List.drop_eq_getElem_cons h
  have h2 : b.drop j = y :: b.drop (j + 1) := by
    obtain ⟨h, rfl⟩ := List.getElem?_eq_some_iff.1 hy
    exact List.drop_eq_getElem_cons h
  rw [h1, h2]
  simp only [cmpS]
  by_cases h : x = y
  · subst h; simp
  · rw [if_neg h]
    by_cases h3 : x.toNat < y.toNat
    · rw [if_pos h3, if_pos h3]
    · rw [if_neg h3, if_neg h3, if_pos]
      rcases Nat.lt_or_ge y.toNat x.toNat with h4 | h4
      · exact h4
      · exact absurd (UInt8.toNat_inj.1 (by omega)) h
theorem cmpS_zero : ∀ (s t : List UInt8), cmpS s t = 0 ↔ s = t
  | [], [] => by simp [cmpS]
  | [], _ :: _ => by simp [cmpS]
  | _ :: _, [] => by simp [cmpS]
  | x :: s, y :: t => by
    have ih := cmpS_zero s t
    unfold cmpS
    split
    · rename_i h; subst h; rw [ih]; simp
    · rename_i h
      split <;> simp [h]
end Go.Q
namespace Go.Proofs.YtgffhiopbnkjbaaGreatDoor
open Go Go.RowKit Go.Q

set_option maxRecDepth 20000 in
set_option maxHeartbeats 1000000 in
theorem r01Compare_any (v u : Value) (o p : List UInt8) (w : World) (h : Bytes w v o) (hu : Bytes w u p) :
    Calls Tryz.prog 69 #[v, u] w fun e w' => e = .returned (.int .i64 (cmpS o p)) ∧ Fr (fun _ => False) w w' := by
  obtain ⟨a, cap, rfl, hc1, hm1, hx⟩ := Vals.form h
  obtain ⟨b, cbp, rfl, hc2, hm2, hy⟩ := Vals.form hu
  have HX := Lib.hid hx
  have HY := Lib.hid hy
  unfold maxLen at hm1 hm2
  clear h hu hx hy
  go_enter Tryz.func69, Tryz.ntmps69
  go_wp2_with fail
  go_loopg [5] (o.length + p.length) (fun g i wr => ∃ j : Nat, g = o.length + p.length - j ∧ j ≤ o.length ∧ j ≤ p.length ∧ i = .int .i64 j ∧ cmpS o p = cmpS (o.drop j) (p.drop j) ∧ Fr (fun _ => False) w wr)
  case atStart => exact ⟨0, rfl, Nat.zero_le _, Nat.zero_le _, rfl, rfl, Fr.refl _⟩
  case round =>
    obtain ⟨j, hg, hj, hjp, rfl, hE, F⟩ := hrel
    have HG := Lib.hid hg
    have HE := Lib.hid hE
    have HF := Lib.hid F
    clear hg hE
    by_cases hjl : j < o.length
    · obtain ⟨ba, oa, rfl, ha⟩ := HX.out (by omega)
      obtain ⟨x, hxj⟩ : ∃ x, o[j]? = some x := ⟨_, List.getElem?_eq_getElem hjl⟩
      have e1 := F.cell (ha j x hxj) (fun h => h)
      have r1 : (0 : Int) ≤ (j : Int) := by omega
      have r2 : (j : Int) < (o.length : Int) := by omega
      have r5 : decide ((o.length : Int) ≤ (j : Int)) = false := decide_eq_false (by omega)
      have r5N : decide (o.length ≤ j) = false := decide_eq_false (by omega)
      have r5' : decide ((j : Int) < (o.length : Int)) = true := decide_eq_true (by omega)
      have r5'N : decide (j < o.length) = true := decide_eq_true (by omega)
      by_cases hjl2 : j < p.length
      · obtain ⟨bb, ob, rfl, hb⟩ := HY.out (by omega)
        obtain ⟨y, hyj⟩ : ∃ y, p[j]? = some y := ⟨_, List.getElem?_eq_getElem hjl2⟩
        have e2 := F.cell (hb j y hyj) (fun h => h)
        have r4 : (j : Int) < (p.length : Int) := by omega
        have r3 : decide ((p.length : Int) ≤ (j : Int)) = false := decide_eq_false (by omega)
        have r3N : decide (p.length ≤ j) = false := decide_eq_false (by omega)
        have r4' : decide ((j : Int) < (p.length : Int)) = true := decide_eq_true (by omega)
        have r4'N : decide (j < p.length) = true := decide_eq_true (by omega)
        have hcd := Lib.hid (cmpS_drop hxj hyj)
        clear ha hb hxj hyj F
        generalize x.toNat = x at *
        generalize y.toNat = y at *
        by_cases h1 : x < y
        · have hres : cmpS o p = -1 := by rw [HE.out, hcd.out, if_pos h1]
          have HRES := Lib.hid hres
          have q1 : decide ((x : Int) < (y : Int)) = true := decide_eq_true (by omega)
          have q1N : decide (x < y) = true := decide_eq_true h1
          clear hres
          go_wp2_with fail
          go_quiet (fail)
          go_wp2_with fail
          go_ret
          refine ⟨by rw [HRES.out]; rfl, ?_⟩; (first | with_reducible exact HF.out | with_reducible exact Fr.drewN HF.out _ | with_reducible exact Fr.drewN (Fr.drewN HF.out _) _ | with_reducible exact Fr.drewN (Fr.drewN (Fr.drewN HF.out _) _) _)
        · have q1 : decide ((x : Int) < (y : Int)) = false := decide_eq_false (by omega)
          have q1N : decide (x < y) = false := decide_eq_false h1
          by_cases h2 : y < x
          · have hres : cmpS o p = 1 := by rw [HE.out, hcd.out, if_neg h1, if_pos h2]
            have HRES := Lib.hid hres
            have q2 : decide ((y : Int) < (x : Int)) = true := decide_eq_true (by omega)
            have q2N : decide (y < x) = true := decide_eq_true h2
            clear hres
            go_wp2_with fail
            go_quiet (fail)
            go_wp2_with fail
            go_quiet (fail)
            go_wp2_with fail
            go_ret
            refine ⟨by rw [HRES.out]; rfl, ?_⟩; (first | with_reducible exact HF.out | with_reducible exact Fr.drewN HF.out _ | with_reducible exact Fr.drewN (Fr.drewN HF.out _) _ | with_reducible exact Fr.drewN (Fr.drewN (Fr.drewN HF.out _) _) _)
          · have hres : cmpS o p = cmpS (o.drop (j + 1)) (p.drop (j + 1)) := by rw [HE.out, hcd.out, if_neg h1, if_neg h2]
            have HRES := Lib.hid hres
            have q2 : decide ((y : Int) < (x : Int)) = false := decide_eq_false (by omega)
            have q2N : decide (y < x) = false := decide_eq_false h2
            clear hres
            go_wp2_with fail
            go_quiet (fail)
            go_wp2_with fail
            go_quiet (fail)
            go_wp2_with fail
            go_roundg (o.length + p.length - (j + 1))
            case measure => rw [HG.out]; omega
            case rel => refine ⟨j + 1, rfl, by omega, by omega, by go_num, HRES.out, ?_⟩; (first | with_reducible exact HF.out | with_reducible exact Fr.drewN HF.out _ | with_reducible exact Fr.drewN (Fr.drewN HF.out _) _ | with_reducible exact Fr.drewN (Fr.drewN (Fr.drewN HF.out _) _) _)
      · have r3 : decide ((p.length : Int) ≤ (j : Int)) = true := decide_eq_true (by omega)
        have r3N : decide (p.length ≤ j) = true := decide_eq_true (by omega)
        have r4 : decide ((j : Int) < (p.length : Int)) = false := decide_eq_false (by omega)
        have r4N : decide (j < p.length) = false := decide_eq_false (by omega)
        have hres : cmpS o p = 1 := by
          have h1 : o.drop j = x :: o.drop (j + 1) := by
            obtain ⟨h, rfl⟩ := List.getElem?_eq_some_iff.1 hxj
            exact List.drop_eq_getElem_cons h
          have h2 : p.drop j = [] := List.drop_eq_nil_of_le (by omega)
          rw [HE.out, h1, h2]
          rfl
        have HRES := Lib.hid hres
        clear hres ha hxj F
        go_wp2_with fail
        go_quiet (fail)
        go_wp2_with fail
        go_quiet (fail)
        go_wp2_with fail
        go_ret
        refine ⟨by rw [HRES.out]; rfl, ?_⟩; (first | with_reducible exact HF.out | with_reducible exact Fr.drewN HF.out _ | with_reducible exact Fr.drewN (Fr.drewN HF.out _) _ | with_reducible exact Fr.drewN (Fr.drewN (Fr.drewN HF.out _) _) _)
    · obtain rfl : j = o.length := by omega
      have h1 : o.drop o.length = [] := List.drop_length
      have r5 : decide ((o.length : Int) ≤ (o.length : Int)) = true := decide_eq_true (by omega)
      have r5N : decide (o.length ≤ o.length) = true := decide_eq_true (by omega)
      by_cases hlt : o.length < p.length
      · have r3 : (o.length : Int) < (p.length : Int) := by omega
        have r3N : decide (o.length < p.length) = true := decide_eq_true hlt
        have hres : cmpS o p = -1 := by
          rw [HE.out, h1]
          have : p.drop o.length ≠ [] := fun e => by have := drop_nil e; omega
          cases hd : p.drop o.length with
          | nil => exact absurd hd this
          | cons y t => rfl
        have HRES := Lib.hid hres
        clear hres h1 F
        go_wp2_with fail
        go_quiet (fail)
        go_wp2_with fail
        go_ret
        refine ⟨by rw [HRES.out]; rfl, ?_⟩; (first | with_reducible exact HF.out | with_reducible exact Fr.drewN HF.out _ | with_reducible exact Fr.drewN (Fr.drewN HF.out _) _ | with_reducible exact Fr.drewN (Fr.drewN (Fr.drewN HF.out _) _) _)
      · have r3 : ¬ (o.length : Int) < (p.length : Int) := by omega
        have r3N : decide (o.length < p.length) = false := decide_eq_false hlt
        have hres : cmpS o p = 0 := by
          have h2 : p.drop o.length = [] := List.drop_eq_nil_of_le (by omega)
          rw [HE.out, h1, h2]
          rfl
        have HRES := Lib.hid hres
        clear hres h1
        go_wp2_with fail
        go_ret
        exact ⟨by rw [HRES.out]; rfl, F⟩

theorem r01Same_any (v u : Value) (o p : List UInt8) (w : World) (h : Bytes w v o) (hu : Bytes w u p) :
    Calls Tryz.prog 43 #[v, u] w fun e w' => e = .returned (.bool (decide (o = p))) ∧ Fr (fun _ => False) w w' := by
  have H := Lib.hid (r01Compare_any v u o p w h hu)
  clear h hu
  have hq : (cmpS o p == 0) = decide (o = p) := by
    rw [Bool.eq_iff_iff]
    simp [cmpS_zero]
  have HQ := Lib.hid hq
  clear hq
  generalize cmpS o p = c at *
  go_enter Tryz.func43, Tryz.ntmps43
  go_wp2_with fail
  refine H.out.mono ?_
  rintro e w' ⟨rfl, F⟩
  go_wp2_with fail
  go_ret
  exact ⟨by rw [← HQ.out]; rfl, F⟩
end Go.Proofs.YtgffhiopbnkjbaaGreatDoor

namespace Go.Proofs.YtgffhiopbnkjbaaGreatDoor
open Go Go.RowKit Go.Q
set_option linter.unusedSimpArgs false

/-- What Read gives. -/
def oidReadOut (w w' : World) (c : Nat) (K : Nat → Prop) (bs : List UInt8) (p : Nat) (r : Except Int (List Int × Nat)) (e : Ending) : Prop :=
  match r with
  | .ok (o, k) => ∃ a cc, e = .returned (.tuple #[.slice a o.length cc, .int .i64 0]) ∧ w'.ownsRow w.heap.size 3 1 (.slice a o.length cc) o.length (intCells o) ∧ CurAt w' c K bs (p + k)
  | .error x => e = .returned (.tuple #[.slice none 0 0, .int .i64 x]) ∧ CurAt w' c K bs p

set_option maxRecDepth 20000 in
set_option maxHeartbeats 2000000 in
theorem oidRead_any {w : World} {c : Nat} {K : Nat → Prop} {bs : List UInt8} {p : Nat} (h : CurAt w c K bs p) :
    Calls Tryz.prog 142 #[pt c] w fun e w' => oidReadOut w w' c K bs p (oidReadS (bs.drop p)) e ∧ Fr (fun k => k = c) w w' := by
  have hcl := h.lt
  have hsm := h.small
  have H := Lib.hid (h.step (K' := fun k => K k ∨ w.heap.size ≤ k) (Fr.refl w) (S := fun _ => False) (fun _ _ h => h.elim) (fun _ h => h))
  have HR := Lib.hid (show oidReadS (bs.drop p) = match openS (tagOf 6) (bs.drop p) with | .error e => .error e | .ok (x, k) => match oidParseS x with | .error e => .error e | .ok o => .ok (o, k) from rfl)
  have HA := Lib.hid (at_any H.out)
  clear h
  go_enter Tryz.func142, Tryz.ntmps142
  go_wp2_with fail
  refine HA.out.mono ?_
  rintro e w0 ⟨rfl, rfl⟩
  clear HA
  go_wp2_with fail
  refine (headOf_any 6 _).mono ?_
  rintro e w1 ⟨rfl, F1⟩
  have HO := Lib.hid (open_any (H.out.old F1) (tagOf 6))
  have HF1 := Lib.hid (F1.mono (T := fun k => k = c) (fun _ _ h => h.elim))
  have hs1 := F1.size
  clear F1
  go_wp2_with fail
  refine HO.out.mono ?_
  rintro e w2 ⟨hout, F2⟩
  have HF2 := Lib.hid (HF1.out.trans F2)
  have hs2 := HF2.out.size
  clear HO H F2 HF1
  unfold OpenOut at hout
  cases ho : openS (tagOf 6) (bs.drop p) with
  | error x =>
    have hx := openS_nz ho
    have hx1 : (x == 0) = false := beq_eq_false_iff_ne.2 hx
    have hx2 : (x != 0) = true := by simpa using hx
    have hr := HR.out
    rw [ho] at hout hr
    obtain ⟨rfl, C2⟩ := hout
    have HC2 := Lib.hid (C2.step (K' := K) (Fr.refl w2) (S := fun _ => False) (fun _ _ h => h.elim) (fun k hk => .inl (.inl hk)))
    have HR2 := Lib.hid hr
    clear ho hr HR C2 hx
    go_wp2_with fail
    refine bodyPost_ret (v := .tuple #[.slice none 0 0, .int .i64 x]) (by simp [results, Tryz.results142, go_sem]) rfl ⟨?_, HF2.out⟩
    rw [HR2.out]
    exact ⟨rfl, HC2.out⟩
  | ok yk =>
    obtain ⟨y, k⟩ := yk
    have hr := HR.out
    rw [ho] at hout hr
    obtain ⟨g, rfl, ⟨hg, hN⟩, C2⟩ := hout
    have hyl : y.length ≤ 16777216 := (open_back ho tag6).2.1
    have HR2 := Lib.hid hr
    have HC2 := Lib.hid C2
    have HRE := Lib.hid (rest_any hN)
    rw [List.drop_zero, Nat.sub_zero] at HRE
    clear ho hr HR C2
    go_wp2_with fail
    refine HRE.out.mono ?_
    rintro e w3 ⟨v, rfl, hown, C3, F3⟩
    have HV := Lib.hid (Vals.of_own hown).1
    obtain ⟨a, m, cap, rfl, rfl⟩ := own_shape hown
    have HC3 := Lib.hid (HC2.out.step (K' := fun k => K k ∨ w.heap.size ≤ k) F3 (fun k _ e => .inr (by omega)) (fun k hk => .inl hk))
    have HF3 := Lib.hid (HF2.out.trans' F3 (fun i hi e => by omega))
    have hs3 := F3.size
    have HP := Lib.hid (oidParse_any _ y w3 HV.out (by omega))
    clear hown C3 F3 HRE HC2 HF2 hN
    go_wp2_with fail
    refine HP.out.mono ?_
    rintro e w4 ⟨hout, F4⟩
    have HC4 := Lib.hid (HC3.out.old F4)
    have HF4 := Lib.hid (HF3.out.trans (F4.mono (fun _ _ h => h.elim)))
    clear F4 HC3 HF3 HP
    unfold oidParseOut at hout
    cases ho : oidParseS y with
    | error x =>
      have hx := oidParse_nz ho
      have hx1 : (x == 0) = false := beq_eq_false_iff_ne.2 hx
      have hx2 : (x != 0) = true := by simpa using hx
      have hr := HR2.out
      rw [ho] at hout
      simp only [ho] at hr
      subst hout
      have HR3 := Lib.hid hr
      have HB := Lib.hid (back_any HC4.out p (by omega))
      clear ho hr hx
      go_wp2_with fail
      refine HB.out.mono ?_
      rintro e w5 ⟨rfl, C5, F5⟩
      have HC5 := Lib.hid (C5.step (K' := K) (Fr.refl w5) (S := fun _ => False) (fun _ _ h => h.elim) (fun k hk => .inl (.inl hk)))
      have HF5 := Lib.hid (HF4.out.trans F5)
      clear C5 F5 HB
      go_wp2_with fail
      refine bodyPost_ret (v := .tuple #[.slice none 0 0, .int .i64 x]) (by simp [results, Tryz.results142, go_sem]) rfl ⟨?_, HF5.out⟩
      rw [HR3.out]
      exact ⟨rfl, HC5.out⟩
    | ok o =>
      have hr := HR2.out
      rw [ho] at hout
      simp only [ho] at hr
      obtain ⟨ao, co, rfl, hown⟩ := hout
      have HR3 := Lib.hid hr
      have HO := Lib.hid (own_le hown (Nat.le_trans hs2 hs3))
      clear ho hr hown
      go_wp2_with fail
      refine bodyPost_ret (v := .tuple #[.slice ao o.length co, .int .i64 0]) (by simp [results, Tryz.results142, go_sem]) rfl ⟨?_, HF4.out⟩
      rw [HR3.out]
      exact ⟨ao, co, rfl, HO.out, HC4.out.step (K' := K) (Fr.refl w4) (S := fun _ => False) (fun _ _ h => h.elim) (fun k hk => .inl (.inl hk))⟩

/-- What value gives. -/
def valueOut (w w' : World) (c : Nat) (K : Nat → Prop) (bs : List UInt8) (p : Nat) (r : Except Int (Tag × Nat × Nat)) (e : Ending) : Prop :=
  match r with
  | .ok (_, _, n) => ∃ a cc, e = .returned (.tuple #[.slice a n cc, .int .i64 0]) ∧ w'.ownsRow w.heap.size 5 1 (.slice a n cc) n (Lib.byteCells ((bs.drop p).take n)) ∧ CurAt w' c K bs (p + n)
  | .error x => e = .returned (.tuple #[.slice none 0 0, .int .i64 x]) ∧ ∃ q, p ≤ q ∧ CurAt w' c K bs q

set_option maxRecDepth 20000 in
set_option maxHeartbeats 2000000 in
theorem value_any {w : World} {c : Nat} {K : Nat → Prop} {bs : List UInt8} {p : Nat} (h : CurAt w c K bs p) :
    Calls Tryz.prog 143 #[.agg #[pt c]] w fun e w' => valueOut w w' c K bs p (oneS (bs.drop p)) e ∧ Fr (fun k => k = c) w w' := by
  have hcl := h.lt
  have hsm := h.small
  have hle := h.le
  have F0 : Fr (fun _ => False) w (w.alloc (.cells #[pt c] 116)) := (Fr.refl w).alloc _
  have B0 := Blk.new w 116 #[pt c]
  have H := Lib.hid (h.step (K' := fun k => K k ∨ w.heap.size ≤ k) F0 (fun _ _ h => h.elim) (fun _ h => h))
  have HF0 := Lib.hid (F0.mono (T := fun k => k = c) (fun _ _ h => h.elim))
  obtain ⟨b0, hb0⟩ : ∃ b0, b0 = w.heap.size := ⟨_, rfl⟩
  have hbc : b0 ≠ c := by omega
  rw [← hb0] at B0
  have HBB := Lib.hid B0
  have e0 : (w.alloc (.cells #[pt c] 116)).cell? ⟨b0, 0, none⟩ = some (pt c) := B0.cell 0
  have HB0 := Lib.hid hb0
  have HA := Lib.hid (at_any H.out)
  have HRD := Lib.hid (headRead_any H.out)
  clear h F0 B0 hb0
  go_enter Tryz.func143, Tryz.ntmps143
  go_upto_region 1 with fail
  rw [← HB0.out]
  generalize hw0 : (w.alloc (.cells #[pt c] 116)) = w0 at *
  clear hw0
  go_wp2_with fail
  refine HA.out.mono ?_
  rintro e w0' ⟨rfl, rfl⟩
  clear HA
  go_wp2_with fail
  refine HRD.out.mono ?_
  rintro e w1 ⟨⟨⟨tc, tn, tm⟩, n, x, rfl, ht⟩, C1, F1⟩
  rw [show tagV ⟨tc, tn, tm⟩ = .agg #[.int .i64 tc, .int .i64 tn, .bool tm] from rfl]
  have HT := Lib.hid ht
  have F2 : Fr (fun _ => False) w1 (w1.alloc (.cells #[.int .i64 tc, .int .i64 tn, .bool tm] 130)) := (Fr.refl w1).alloc _
  have HC2 := Lib.hid (C1.old F2)
  have HF2 := Lib.hid ((HF0.out.trans F1).trans (F2.mono (T := fun k => k = c) (fun _ _ h => h.elim)))
  replace e0 := ((HBB.out.fr F1 hbc).fr F2 (fun h => h)).cell 0
  simp at e0
  clear ht C1 F1 F2 HRD HF0 H
  go_upto_region 3 with fail
  generalize (w1.alloc (.cells #[.int .i64 tc, .int .i64 tn, .bool tm] 130)) = w2 at *
  by_cases hx : x = 0
  · subst hx
    have hok : ∃ u k, readS (bs.drop p) = .ok (u, n, k) := by
      have ht := HT.out
      cases hr : readS (bs.drop p) with
      | error e => rw [hr] at ht; exact absurd ht.symm (readS_err hr)
      | ok vk => obtain ⟨v, m, k⟩ := vk; rw [hr] at ht; exact ⟨v, k, by rw [ht.2.1]⟩
    obtain ⟨u, k, hk⟩ := hok
    have hkl := (readS_le hk)
    rw [List.length_drop] at hkl
    have hc := HC2.out
    rw [hk] at hc
    have HC : Hid (CurAt w2 c (fun k => K k ∨ w.heap.size ≤ k) bs (p + k)) := Lib.hid hc
    have HL := Lib.hid (left_any HC.out)
    have HK := Lib.hid hk
    have hkk : p + k ≤ bs.length := by omega
    have hn16 := hkl.2
    clear hk hc HC2 HT hkl
    go_wp2_with fail
    refine HL.out.mono ?_
    rintro e w3 ⟨rfl, F3⟩
    have HC3 := Lib.hid (HC.out.old F3)
    have HF3 := Lib.hid (HF2.out.trans (F3.mono (T := fun k => k = c) (fun _ _ h => h.elim)))
    replace e0 := F3.cell e0 (fun h => h)
    clear F3 HL HC HF2
    by_cases hn : n ≤ bs.length - (p + k)
    · have q1 : ¬ ((bs.length - (p + k) : Nat) : Int) < (n : Int) := by omega
      have q2 : ¬ bs.length - (p + k) < n := by omega
      have HO := Lib.hid (oneOk HK.out (by rw [List.length_drop]; omega))
      have HA := Lib.hid (at_any HC3.out)
      have hkn : k + n ≤ bs.length - p := by omega
      have HKN := Lib.hid hkn
      have hkn2 : k + n ≤ 1099511627776 := by omega
      clear hkn
      generalize bs.length - (p + k) = lq at *
      go_wp2_with fail
      refine HA.out.mono ?_
      rintro e w0' ⟨rfl, rfl⟩
      have hw1 : wrap64 (((p + k : Nat) : Int) - (p : Int)) = (k : Int) := by unfold wrap64; omega
      have HB := Lib.hid (back_any HC3.out p (by omega))
      generalize ((p + k : Nat) : Int) = pk at *
      go_upto_region 8 with fail
      simp only [hw1]
      clear hw1
      go_wp2_with fail
      refine HB.out.mono ?_
      rintro e w4 ⟨rfl, C4, F4⟩
      have HTK := Lib.hid (take_ok C4 (k + n) HKN.out)
      rw [Int.natCast_add] at HTK
      have HF4 := Lib.hid (HF3.out.trans F4)
      have hs4 := HF4.out.size
      replace e0 := F4.cell e0 hbc
      have b1 : (0 : Int) ≤ (k : Int) + (n : Int) := by omega
      have b2 : (k : Int) + (n : Int) ≤ 1099511627776 := by omega
      clear C4 F4 HB HC3 HF3 HA
      go_wp2_with fail
      refine HTK.out.mono ?_
      rintro e w5 ⟨v, rfl, hown, C5, F5⟩
      obtain ⟨a, m, cap, rfl, rfl⟩ := own_shape hown
      have HOW := Lib.hid (own_le hown hs4)
      have HC := Lib.hid (C5.step (K' := K) (Fr.refl w5) (S := fun _ => False) (fun _ _ h => h.elim) (fun k hk => .inl (.inl hk)))
      have HF5 := Lib.hid (HF4.out.trans F5)
      clear hown C5 F5 HTK HF4
      go_wp2_with fail
      refine bodyPost_ret (v := .tuple #[.slice a (k + n) cap, .int .i64 0]) (by simp [results, Tryz.results143, go_sem]) rfl ⟨?_, HF5.out⟩
      rw [HO.out]
      exact ⟨a, cap, rfl, HOW.out, HC.out⟩
    · have HO := Lib.hid (oneEnd HK.out (by rw [List.length_drop]; omega))
      have q1 : ((bs.length - (p + k) : Nat) : Int) < (n : Int) := by omega
      have q2 : bs.length - (p + k) < n := by omega
      have HC := Lib.hid (HC3.out.step (K' := K) (Fr.refl w3) (S := fun _ => False) (fun _ _ h => h.elim) (fun k hk => .inl (.inl hk)))
      generalize bs.length - (p + k) = lq at *
      go_wp2_with fail
      refine bodyPost_ret (v := .tuple #[.slice none 0 0, .int .i64 3]) (by simp [results, Tryz.results143, go_sem]) rfl ⟨?_, HF3.out⟩
      rw [HO.out]
      exact ⟨rfl, _, Nat.le_add_right p k, HC.out⟩
  · have hx1 : (x == 0) = false := beq_eq_false_iff_ne.2 hx
    have hx2 : (x != 0) = true := by simpa using hx
    have herr : readS (bs.drop p) = .error x := by
      have ht := HT.out
      cases hr : readS (bs.drop p) with
      | error e => rw [hr] at ht; rw [show x = e from ht]
      | ok vk => obtain ⟨v, m, k⟩ := vk; rw [hr] at ht; exact absurd ht.2.2 hx
    have hc := HC2.out
    rw [herr] at hc
    have HO := Lib.hid (oneE herr)
    have HC := Lib.hid (hc.step (K' := K) (Fr.refl w2) (S := fun _ => False) (fun _ _ h => h.elim) (fun k hk => .inl (.inl hk)))
    clear herr hc
    go_wp2_with fail
    refine bodyPost_ret (v := .tuple #[.slice none 0 0, .int .i64 x]) (by simp [results, Tryz.results143, go_sem]) rfl ⟨?_, HF2.out⟩
    rw [HO.out]
    exact ⟨rfl, p, Nat.le_refl _, HC.out⟩
end Go.Proofs.YtgffhiopbnkjbaaGreatDoor

namespace Go.Q
open Go Go.RowKit
/-- A slice whose elements, sz cells each, read as l. -/
def LAt {α : Type} (sz : Nat) (R : World → List Value → α → Prop) (w : World) (v : Value) (l : List α) : Prop :=
  ∃ a cap, v = .slice a l.length cap ∧ l.length ≤ cap ∧ cap ≤ maxLen ∧ (0 < l.length → ∃ b o, a = some ⟨b, o, none⟩ ∧ ∀ i x, l[i]? = some x → ∃ cs, cs.length = sz ∧ (∀ j u, cs[j]? = some u → w.cell? ⟨b, o + sz * i + j, none⟩ = some u) ∧ R w cs x)
/-- A row of one's own; its elements stand whatever changes in K. -/
def GRow {α : Type} (sz : Nat) (R : World → List Value → α → Prop) (K : Nat → Prop) (t : TypeId) (w : World) (base : Nat) (v : Value) (l : List α) : Prop :=
  ∃ cs : List Value, w.ownsRow base t sz v l.length cs ∧ ∀ i x, l[i]? = some x → ∃ us, us.length = sz ∧ (∀ j u, us[j]? = some u → cs[sz * i + j]? = some u) ∧ Kept (fun W => R W us x) (fun k => v.ownBlock = some k ∨ K k) w
section
variable {α : Type} {sz : Nat} {R : World → List Value → α → Prop} {K : Nat → Prop} {t : TypeId} {w : World} {base : Nat} {v : Value} {l : List α}
theorem LAt.old (hR : ∀ w w' cs x, R w cs x → Fr (fun _ => False) w w' → R w' cs x) {w' : World} (h : LAt sz R w v l) (f : Fr (fun _ => False) w w') : LAt sz R w' v l := by
  obtain ⟨a, cap, rfl, h1, h2, h3⟩ := h
  refine ⟨a, cap, rfl, h1, h2, fun h0 => ?_⟩
  obtain ⟨b, o, rfl, hy⟩ := h3 h0
  refine ⟨b, o, rfl, fun i p hp => ?_⟩
  obtain ⟨cs, e1, e2, e3⟩ := hy i p hp
  exact ⟨cs, e1, fun j u hu => f.cell (e2 j u hu) (fun h => h), hR _ _ _ _ e3 f⟩
theorem GRow.nil (sz : Nat) (R : World → List Value → α → Prop) (K : Nat → Prop) (t : TypeId) (w : World) (base : Nat) : GRow sz R K t w base (.slice none 0 0) [] := ⟨[], ⟨by simp, .inl ⟨rfl, rfl⟩⟩, fun i p hp => by simp at hp⟩
theorem GRow.keep (h : GRow sz R K t w base v l) : ∀ k, v.ownBlock = some k → base ≤ k ∧ k < w.heap.size := fun k hk => by
  obtain ⟨us, h1, -⟩ := h
  exact h1.lt k hk
theorem GRow.shape (h : GRow sz R K t w base v l) : ∃ a c, v = .slice a l.length c := by
  obtain ⟨us, h1, -⟩ := h
  obtain ⟨a, m, c, rfl, rfl⟩ := own_shape h1
  exact ⟨a, c, rfl⟩
theorem GRow.at (h : GRow sz R K t w base v l) (hs : 0 < sz) : LAt sz R w v l := by
  obtain ⟨cs, ⟨h1, h2⟩, h3⟩ := h
  rcases h2 with ⟨rfl, h0⟩ | ⟨g, cap, cur, rfl, hg, hh, hnc, hcm, hcs, htk⟩
  · exact ⟨none, 0, by rw [h0], by omega, by unfold maxLen; omega, fun h => by omega⟩
  · refine ⟨_, cap, rfl, hnc, hcm, fun _ => ⟨g, 0, rfl, fun i p hp => ?_⟩⟩
    obtain ⟨us, e1, e2, e3⟩ := h3 i p hp
    refine ⟨us, e1, fun j u hu => ?_, e3.now⟩
    have hi := (List.getElem?_eq_some_iff.1 hp).1
    have hc := e2 j u hu
    have hj := (List.getElem?_eq_some_iff.1 hc).1
    have := congrArg (fun z : List Value => z[sz * i + j]?) htk
    simp only [List.getElem?_take, if_pos (show sz * i + j < l.length * sz by omega), Array.getElem?_toList] at this
    rw [Nat.zero_add]
    simp only [World.cell?, hh]
    exact this.trans hc
theorem GRow.fr {S : Nat → Prop} {w' : World} (h : GRow sz R K t w base v l) (f : Fr S w w') (hS : ∀ k, k < w.heap.size → S k → K k) (hv : ∀ k, v.ownBlock = some k → ¬ S k) : GRow sz R K t w' base v l := by
  obtain ⟨cs, h1, h2⟩ := h
  refine ⟨cs, Go.Proofs.YtgffhiopbnkjbaaGreatDoor.ownsRow_fr h1 f hv, fun i p hp => ?_⟩
  obtain ⟨us, e1, e2, e3⟩ := h2 i p hp
  exact ⟨us, e1, e2, e3.step f (fun k hk hs => .inr (hS k hk hs)) (fun k hk => .inl hk)⟩
theorem GRow.old {w' : World} (h : GRow sz R K t w base v l) (f : Fr (fun _ => False) w w') : GRow sz R K t w' base v l := h.fr f (fun _ _ h => h.elim) (fun _ _ h => h)
/-- Changes in K leave it. -/
theorem GRow.kept (h : GRow sz R K t w base v l) (hs : 0 < sz) (K' : Nat → Prop) (hK : ∀ k, K' k → K k ∧ k < base) : Kept (fun W => LAt sz R W v l) K' w := fun W f =>
  (h.fr f (fun k _ hk => (hK k hk).1) (fun k hk hs => by have := (h.keep k hk).1; have := (hK k hs).2; omega)).at hs
/-- An element more. -/
theorem GRow.add {P : Program} {s : TypeId} {z : Value} {bytes : Nat} (hu0 : P.underlying s = some (.slice t)) (hinf : Info P t z sz bytes) (hzs : z.cells.size = sz) (hs0 : 0 < sz) (hby : bytes ≤ 64) {wa : World} (h : GRow sz R K t w base v l) (hb : base ≤ w.heap.size) (F1 : Fr (fun _ => False) w wa) (g : Nat) (us : List Value) (hus : us.length = sz) (BX : Blk wa g t us.toArray) (h1 : ∀ u ∈ us, u.oneCell' = true) (x : α) (hk : Kept (fun W => R W us x) (fun k => v.ownBlock = some k ∨ K k) w) (hn : l.length ≤ 109951162777) :
    ∃ a c w', (Builtin.append_ #[s, s] s #[v, .slice (some ⟨g, 0, none⟩) 1 1]).run P wa = .ok (.slice a (l.length + 1) c) w' ∧ GRow sz R K t w' base (.slice a (l.length + 1) c) (l ++ [x]) ∧ Fr (fun k => v.ownBlock = some k) w w' ∧ (∀ k, (Value.slice a (l.length + 1) c).ownBlock = some k → v.ownBlock = some k ∨ w.heap.size ≤ k) := by
  obtain ⟨cs, g1, g2⟩ := h
  have hcl : cs.length = l.length * sz := g1.1
  obtain ⟨a, c, w', hrun, h4, F2, h5⟩ := add_gen hu0 hinf hzs hs0 hby g1 hb F1 g us hus BX h1 hn
  have hst : ∀ (us : List Value) (y : α), Kept (fun W => R W us y) (fun k => v.ownBlock = some k ∨ K k) w → Kept (fun W => R W us y) (fun k => (Value.slice a (l.length + 1) c).ownBlock = some k ∨ K k) w' := fun us y hq =>
    hq.step F2 (fun _ _ h => .inl h) (fun k hk => by
      rcases hk with h | h
      · rcases h5 k h with h | h
        · exact .inl (.inl h)
        · exact .inr h
      · exact .inl (.inr h))
  refine ⟨a, c, w', hrun, ⟨cs ++ us, by rw [List.length_append]; exact h4, fun i y hy => ?_⟩, F2, h5⟩
  rcases Nat.lt_or_ge i l.length with hi | hi
  · rw [List.getElem?_append_left hi] at hy
    obtain ⟨us', e1, e2, e3⟩ := g2 i y hy
    refine ⟨us', e1, fun j u hu => ?_, hst _ _ e3⟩
    have := e2 j u hu
    rw [List.getElem?_append_left (List.getElem?_eq_some_iff.1 this).1]
    exact this
  · obtain rfl : i = l.length := by
      have := (List.getElem?_eq_some_iff.1 hy).1
      simp at this
      omega
    rw [List.getElem?_append_right (Nat.le_refl _)] at hy
    simp at hy
    subst hy
    refine ⟨us, hus, fun j u hu => ?_, hst _ _ hk⟩
    rw [Nat.mul_comm, List.getElem?_append_right (by rw [hcl]; exact Nat.le_add_right _ _), hcl, Nat.add_sub_cancel_left]
    exact hu
end
/-- A part's cells. -/
def RPart (W : World) (cs : List Value) (p : Part) : Prop := ∃ x y, cs = [x, y] ∧ Ints W x p.o ∧ Bytes W y p.b
/-- A step's cell. -/
def RStep (W : World) (cs : List Value) (r : List Part) : Prop := ∃ u, cs = [u] ∧ Attrs W u r
theorem LAt.attrs {w : World} {v : Value} {l : List Part} (h : LAt 2 RPart w v l) : Attrs w v l := by
  obtain ⟨a, cap, rfl, h1, h2, h3⟩ := h
  refine ⟨a, cap, rfl, h1, h2, fun h0 => ?_⟩
  obtain ⟨b, o, rfl, hy⟩ := h3 h0
  refine ⟨b, o, rfl, fun i p hp => ?_⟩
  obtain ⟨cs, -, e2, x, y, rfl, g1, g2⟩ := hy i p hp
  exact ⟨x, y, e2 0 x rfl, e2 1 y rfl, g1, g2⟩
theorem LAt.name {w : World} {v : Value} {n : List (List Part)} (h : LAt 1 RStep w v n) : NameAt w v n := by
  obtain ⟨a, cap, rfl, h1, h2, h3⟩ := h
  refine ⟨a, cap, rfl, h1, h2, fun h0 => ?_⟩
  obtain ⟨b, o, rfl, hy⟩ := h3 h0
  refine ⟨b, o, rfl, fun i r hr => ?_⟩
  obtain ⟨cs, -, e2, u, rfl, g1⟩ := hy i r hr
  exact ⟨u, by have := e2 0 u rfl; rw [Nat.one_mul] at this; exact this, g1⟩
theorem Kept.imp {A B : World → Prop} {K : Nat → Prop} {w : World} (h : Kept A K w) (f : ∀ W, A W → B W) : Kept B K w := fun W g => f W (h W g)
theorem Kept.both {A B : World → Prop} {K : Nat → Prop} {w : World} (h : Kept A K w) (g : Kept B K w) : Kept (fun W => A W ∧ B W) K w := fun W f => ⟨h W f, g W f⟩
end Go.Q

namespace Go.Q
open Go Go.RowKit
theorem own_kept' {w : World} {base n : Nat} {e : TypeId} {v : Value} {xs : List Value} (h : w.ownsRow base e 1 v n xs) (K : Nat → Prop) (hK : ∀ k, K k → k < base) : Kept (fun W => Vals W v xs) K w := fun W f =>
  (Vals.of_own (Go.Proofs.YtgffhiopbnkjbaaGreatDoor.ownsRow_fr h f (fun k hk hs => by have := ((Vals.of_own h).2 k hk).1; have := hK k hs; omega))).1
theorem partRead_e1 {l : List UInt8} {x : Int} (h : openS (tagOf 16) l = .error x) : partReadS l = .error x := by unfold partReadS; rw [h]
theorem partRead_e2 {l y : List UInt8} {m : Nat} {x : Int} (h : openS (tagOf 16) l = .ok (y, m)) (h2 : oidReadS y = .error x) : partReadS l = .error x := by unfold partReadS; rw [h]; simp only [h2]
theorem partRead_e3 {l y : List UInt8} {m q : Nat} {o : List Int} {x : Int} (h : openS (tagOf 16) l = .ok (y, m)) (h2 : oidReadS y = .ok (o, q)) (h3 : oneS (y.drop q) = .error x) : partReadS l = .error x := by unfold partReadS; rw [h]; simp only [h2, h3]
theorem partRead_ok {l y : List UInt8} {m q k n : Nat} {o : List Int} {t : Tag} (h : openS (tagOf 16) l = .ok (y, m)) (h2 : oidReadS y = .ok (o, q)) (h3 : oneS (y.drop q) = .ok (t, k, n)) : partReadS l = if n < y.length - q then .error 7 else .ok (⟨o, y.drop q⟩, m) := by unfold partReadS; rw [h]; simp only [h2, h3]
theorem oneS_le {l : List UInt8} {t : Tag} {k n : Nat} (h : oneS l = .ok (t, k, n)) : n ≤ l.length := by
  unfold oneS at h
  split at h
  · cases h
  · rename_i u n' k' hr
    have := readS_le hr
    split at h
    · cases h
    · simp only [Except.ok.injEq, Prod.mk.injEq] at h
      omega
end Go.Q
namespace Go.Proofs.YtgffhiopbnkjbaaGreatDoor
open Go Go.RowKit Go.Q
set_option linter.unusedSimpArgs false

/-- What attr gives. -/
def attrOut (w w' : World) (c : Nat) (K : Nat → Prop) (bs : List UInt8) (p : Nat) (r : Except Int (Part × Nat)) (e : Ending) : Prop :=
  match r with
  | .ok (q, m) => ∃ ao co av cv, e = .returned (.tuple #[.agg #[.slice ao q.o.length co, .slice av q.b.length cv], .int .i64 0]) ∧ Kept (fun W => Ints W (.slice ao q.o.length co) q.o ∧ Bytes W (.slice av q.b.length cv) q.b) (fun k => k < w.heap.size) w' ∧ CurAt w' c K bs (p + m)
  | .error x => e = .returned (.tuple #[.agg #[.slice none 0 0, .slice none 0 0], .int .i64 x]) ∧ x ≠ 0 ∧ ∃ q, p ≤ q ∧ CurAt w' c K bs q

set_option maxRecDepth 20000 in
set_option maxHeartbeats 4000000 in
theorem attr_any {w : World} {c : Nat} {K : Nat → Prop} {bs : List UInt8} {p : Nat} (h : CurAt w c K bs p) :
    Calls Tryz.prog 98 #[.agg #[pt c]] w fun e w' => attrOut w w' c K bs p (partReadS (bs.drop p)) e ∧ Fr (fun k => k = c) w w' := by
  have hcl := h.lt
  obtain ⟨b0, hb0⟩ : ∃ b0, b0 = w.heap.size := ⟨_, rfl⟩
  have F0 : Fr (fun _ => False) w ((w.alloc (.cells #[pt c] 116)).alloc (.cells #[.slice none 0 0, .slice none 0 0] 39)) := ((Fr.refl w).alloc _).alloc _
  have B0 := (Blk.new w 116 #[pt c]).alloc (.cells #[.slice none 0 0, .slice none 0 0] 39)
  have BR := Blk.new (w.alloc (.cells #[pt c] 116)) 39 #[.slice none 0 0, .slice none 0 0]
  rw [World.size_alloc] at BR
  have H := Lib.hid (h.step (K' := fun k => K k ∨ w.heap.size ≤ k) F0 (fun _ _ h => h.elim) (fun _ h => h))
  rw [← hb0] at B0 BR
  have hbc : b0 ≠ c := by omega
  have hrc : b0 + 1 ≠ c := by omega
  have HB0 := Lib.hid hb0
  clear h hb0
  go_enter Tryz.func98, Tryz.ntmps98
  go_upto_region 1 with fail
  rw [← HB0.out]
  generalize ((w.alloc (.cells #[pt c] 116)).alloc (.cells #[.slice none 0 0, .slice none 0 0] 39)) = w0 at *
  have hs0 := F0.size
  have hrl := BR.lt
  have HF0 := Lib.hid (F0.mono (T := fun k => k = c) (fun _ _ h => h.elim)).drew
  have HBR := Lib.hid BR.drew
  have HH := Lib.hid (H.out.old (Fr.refl w0).drew)
  have e0 : w0.drew.cell? ⟨b0, 0, none⟩ = some (pt c) := B0.cell 0
  have hd0 : w0.drew.heap.size = w0.heap.size := rfl
  clear F0 B0 BR H
  cases ho : openS (tagOf 16) (bs.drop p) with
  | error x =>
    have hx := openS_nz ho
    have hx1 : (x == 0) = false := beq_eq_false_iff_ne.2 hx
    have hx2 : (x != 0) = true := by simpa using hx
    have HP := Lib.hid (partRead_e1 ho)
    have HX := Lib.hid hx
    have HE := Lib.hid (fun w1 (C : CurAt w1 c (fun k => K k ∨ w.heap.size ≤ k) bs p) => open_err C (tagOf 16) ho)
    clear ho hx
    go_region_held3 (fun w' => w'.cell? ⟨b0, 0, none⟩ = some (pt c)) (exact e0) (first
      | (go_at_call 73; refine (headOf_any 16 _).mono ?_; rintro e w1 ⟨rfl, F1⟩; replace e0 := F1.cell e0 (fun h => h); have HO := Lib.hid (HE.out w1 (HH.out.old F1)))
      | (go_at_call 97; refine HO.out.mono ?_; rintro e w2 ⟨rfl, C2, F2⟩; replace e0 := F2.cell e0 hbc))
    have BR := (HBR.out.fr F1 (fun h => h)).fr F2 hrc
    have HF2 := Lib.hid ((HF0.out.trans (F1.mono (fun _ _ h => h.elim))).trans F2)
    have HC2 := Lib.hid C2
    have SR := BR.cell
    have ZR := BR.frozen
    clear C2 F2 F1 HO HE HH HBR
    go_wp2_with fail
    obtain ⟨B5, F5⟩ := set2 BR (.slice none 0 0) (.slice none 0 0)
    have hb := HB0.out
    have C5 := HC2.out.step (K' := K) F5 (fun k _ e => .inr (by omega)) (fun _ h => .inl (.inl h))
    have G5 := HF2.out.trans' F5 (fun k hk e => by omega)
    generalize ((w2.setCell ⟨b0 + 1, 0, none⟩ (.slice none 0 0)).setCell ⟨b0 + 1, 1, none⟩ (.slice none 0 0)) = w9 at *
    have n0 := B5.cell 0
    have n1 := B5.cell 1
    simp at n0 n1
    refine bodyPost_ret (v := .tuple #[.agg #[.slice none 0 0, .slice none 0 0], .int .i64 x]) (by simp [results, Tryz.results98, go_sem, n0, n1]) rfl ⟨?_, G5⟩
    rw [HP.out]
    exact ⟨rfl, HX.out, p, Nat.le_refl _, C5⟩
  | ok ym =>
    obtain ⟨y, m⟩ := ym
    have HP := Lib.hid ho
    have HE := Lib.hid (fun w1 (C : CurAt w1 c (fun k => K k ∨ w.heap.size ≤ k) bs p) => open_on C (tagOf 16) ho)
    clear ho
    go_region_held3 (fun w' => w'.cell? ⟨b0, 0, none⟩ = some (pt c)) (exact e0) (first
      | (go_at_call 73; refine (headOf_any 16 _).mono ?_; rintro e w1 ⟨rfl, F1⟩; replace e0 := F1.cell e0 (fun h => h); have HO := Lib.hid (HE.out w1 (HH.out.old F1)))
      | (go_at_call 97; refine HO.out.mono ?_; rintro e w2 ⟨⟨g, rfl, ⟨hg, hN⟩, C2⟩, F2⟩; replace e0 := F2.cell e0 hbc))
    have HBR2 := Lib.hid ((HBR.out.fr F1 (fun h => h)).fr F2 hrc)
    have HF2 := Lib.hid ((HF0.out.trans (F1.mono (fun _ _ h => h.elim))).trans F2)
    have HC2 := Lib.hid C2
    have hs1 := F1.size
    have hs2 := F2.size
    rw [hd0] at hs1
    have HN := Lib.hid (hN.step (K' := fun k => k < w1.heap.size ∨ w2.heap.size ≤ k) (Fr.refl w2) (S := fun _ => False) (fun _ _ h => h.elim) (fun _ h => h))
    have hgl := hN.lt
    have HOR := Lib.hid (oidRead_any HN.out)
    rw [List.drop_zero] at HOR
    clear C2 F2 F1 HO HE HH HBR hN
    go_wp2_with fail
    refine HOR.out.mono ?_
    rintro e w3 ⟨hout, F3⟩
    have HF3 := Lib.hid (HF2.out.trans' F3 (fun i hi e => by omega))
    have hrc2 : b0 + 1 ≠ g := by omega
    have HBR3 := Lib.hid (HBR2.out.fr F3 hrc2)
    have HC3 := Lib.hid (HC2.out.step (K' := fun k => K k ∨ w.heap.size ≤ k) F3 (fun k _ e => .inr (by omega)) (fun _ h => .inl h))
    have hs3 := F3.size
    clear F3 HF2 HBR2 HC2 HOR HN
    unfold oidReadOut at hout
    cases ho : oidReadS y with
    | error x =>
      rw [ho] at hout
      obtain ⟨rfl, -⟩ := hout
      have hx := oidRead_nz ho
      have hx1 : (x == 0) = false := beq_eq_false_iff_ne.2 hx
      have hx2 : (x != 0) = true := by simpa using hx
      have HP2 := Lib.hid (partRead_e2 HP.out ho)
      have HX := Lib.hid hx
      have BR := HBR3.out
      have SR := BR.cell
      have ZR := BR.frozen
      clear ho hx
      go_wp2_with fail
      obtain ⟨B5, F5⟩ := set2 BR (.slice none 0 0) (.slice none 0 0)
      have hb := HB0.out
      have C5 := HC3.out.step (K' := K) F5 (fun k _ e => .inr (by omega)) (fun _ h => .inl (.inl h))
      have G5 := HF3.out.trans' F5 (fun k hk e => by omega)
      generalize ((w3.setCell ⟨b0 + 1, 0, none⟩ (.slice none 0 0)).setCell ⟨b0 + 1, 1, none⟩ (.slice none 0 0)) = w9 at *
      have n0 := B5.cell 0
      have n1 := B5.cell 1
      simp at n0 n1
      refine bodyPost_ret (v := .tuple #[.agg #[.slice none 0 0, .slice none 0 0], .int .i64 x]) (by simp [results, Tryz.results98, go_sem, n0, n1]) rfl ⟨?_, G5⟩
      rw [HP2.out]
      exact ⟨rfl, HX.out, _, Nat.le_add_right p m, C5⟩
    | ok oq =>
      obtain ⟨o, q⟩ := oq
      rw [ho] at hout
      obtain ⟨ao, co, rfl, hown, C3⟩ := hout
      rw [Nat.zero_add] at C3
      have HQ := Lib.hid ho
      have HOW := Lib.hid hown
      have HVL := Lib.hid (value_any C3)
      clear ho hown C3
      go_wp2_with fail
      refine HVL.out.mono ?_
      rintro e w4 ⟨hout, F4⟩
      have HF4 := Lib.hid (HF3.out.trans' F4 (fun i hi e => by omega))
      have HBR4 := Lib.hid (HBR3.out.fr F4 hrc2)
      have HC4 := Lib.hid (HC3.out.step (K' := fun k => K k ∨ w.heap.size ≤ k) F4 (fun k _ e => .inr (by omega)) (fun _ h => .inl h))
      have HOW4 := Lib.hid (ownsRow_fr HOW.out F4 (fun k hk e => by have := ((Vals.of_own HOW.out).2 k hk).1; omega))
      have hs4 := F4.size
      clear F4 HF3 HBR3 HC3 HOW HVL
      unfold valueOut at hout
      cases hv : oneS (y.drop q) with
      | error x =>
        rw [hv] at hout
        obtain ⟨rfl, -⟩ := hout
        have hx := oneS_nz hv
        have hx1 : (x == 0) = false := beq_eq_false_iff_ne.2 hx
        have hx2 : (x != 0) = true := by simpa using hx
        have HP2 := Lib.hid (partRead_e3 HP.out HQ.out hv)
        have HX := Lib.hid hx
        have BR := HBR4.out
        have SR := BR.cell
        have ZR := BR.frozen
        clear hv hx
        go_wp2_with fail
        obtain ⟨B5, F5⟩ := set2 BR (.slice none 0 0) (.slice none 0 0)
        have hb := HB0.out
        have C5 := HC4.out.step (K' := K) F5 (fun k _ e => .inr (by omega)) (fun _ h => .inl (.inl h))
        have G5 := HF4.out.trans' F5 (fun k hk e => by omega)
        generalize ((w4.setCell ⟨b0 + 1, 0, none⟩ (.slice none 0 0)).setCell ⟨b0 + 1, 1, none⟩ (.slice none 0 0)) = w9 at *
        have n0 := B5.cell 0
        have n1 := B5.cell 1
        simp at n0 n1
        refine bodyPost_ret (v := .tuple #[.agg #[.slice none 0 0, .slice none 0 0], .int .i64 x]) (by simp [results, Tryz.results98, go_sem, n0, n1]) rfl ⟨?_, G5⟩
        rw [HP2.out]
        exact ⟨rfl, HX.out, _, Nat.le_add_right p m, C5⟩
      | ok tkn =>
        obtain ⟨t, k, n⟩ := tkn
        rw [hv] at hout
        obtain ⟨av, cv, rfl, hownv, C4⟩ := hout
        have hpr := partRead_ok HP.out HQ.out hv
        have hnl := oneS_le hv
        rw [List.length_drop] at hnl
        have HPR := Lib.hid hpr
        have HOV := Lib.hid hownv
        have HL := Lib.hid (left_any C4)
        have hql := C4.le
        clear hv hownv hpr C4
        go_wp2_with fail
        refine HL.out.mono ?_
        rintro e w5 ⟨rfl, F5⟩
        have HF5 := Lib.hid (HF4.out.trans (F5.mono (fun _ _ h => h.elim)))
        have BR := HBR4.out.fr F5 (fun h => h)
        have HC5 := Lib.hid (HC4.out.old F5)
        have HOW5 := Lib.hid (ownsRow_fr HOW4.out F5 (fun _ _ h => h))
        have HOV5 := Lib.hid (ownsRow_fr HOV.out F5 (fun _ _ h => h))
        have SR := BR.cell
        have ZR := BR.frozen
        have hs5 := F5.size
        clear F5 HF4 HBR4 HC4 HOW4 HOV HL
        by_cases hn : n < y.length - q
        · have q1 : (0 : Int) < ((y.length - (q + n) : Nat) : Int) := by omega
          have hp := HPR.out
          rw [if_pos hn] at hp
          have HP2 := Lib.hid hp
          clear hp HPR hn
          go_wp2_with fail
          obtain ⟨B5, F5⟩ := set2 BR (.slice none 0 0) (.slice none 0 0)
          have hb := HB0.out
          have C5 := HC5.out.step (K' := K) F5 (fun k _ e => .inr (by omega)) (fun _ h => .inl (.inl h))
          have G5 := HF5.out.trans' F5 (fun k hk e => by omega)
          generalize ((w5.setCell ⟨b0 + 1, 0, none⟩ (.slice none 0 0)).setCell ⟨b0 + 1, 1, none⟩ (.slice none 0 0)) = w9 at *
          have n0 := B5.cell 0
          have n1 := B5.cell 1
          simp at n0 n1
          refine bodyPost_ret (v := .tuple #[.agg #[.slice none 0 0, .slice none 0 0], .int .i64 7]) (by simp [results, Tryz.results98, go_sem, n0, n1]) rfl ⟨?_, G5⟩
          rw [HP2.out]
          exact ⟨rfl, by decide, _, Nat.le_add_right p m, C5⟩
        · have hyn : y.length - (q + n) = 0 := by omega
          have hp := HPR.out
          rw [if_neg hn] at hp
          have HP2 := Lib.hid hp
          have hyq : n = (y.drop q).length := by rw [List.length_drop]; omega
          have HYQ := Lib.hid hyq
          simp only [hyn]
          clear hp HPR hn hyn hyq
          go_wp2_with fail
          obtain ⟨B5, F5⟩ := set2 BR (.slice ao o.length co) (.slice av n cv)
          have hb := HB0.out
          have C5 := HC5.out.step (K' := K) F5 (fun k _ e => .inr (by omega)) (fun _ h => .inl (.inl h))
          have G5 := HF5.out.trans' F5 (fun k hk e => by omega)
          have k1 := own_kept' (ownsRow_fr HOW5.out F5 (fun k hk e => by have := ((Vals.of_own HOW5.out).2 k hk).1; omega)) (fun k => k < w.heap.size) (fun k hk => by omega)
          have k2 := own_kept' (ownsRow_fr HOV5.out F5 (fun k hk e => by have := ((Vals.of_own HOV5.out).2 k hk).1; omega)) (fun k => k < w.heap.size) (fun k hk => by omega)
          generalize ((w5.setCell ⟨b0 + 1, 0, none⟩ (.slice ao o.length co)).setCell ⟨b0 + 1, 1, none⟩ (.slice av n cv)) = w9 at *
          have n0 := B5.cell 0
          have n1 := B5.cell 1
          simp at n0 n1
          have hyq := HYQ.out
          rw [List.take_of_length_le (by omega)] at k2
          subst hyq
          refine bodyPost_ret (v := .tuple #[.agg #[.slice ao o.length co, .slice av (y.drop q).length cv], .int .i64 0]) (by simp [results, Tryz.results98, go_sem, n0, n1]) rfl ⟨?_, G5⟩
          rw [HP2.out]
          exact ⟨ao, co, av, cv, rfl, k1.both k2, C5⟩
end Go.Proofs.YtgffhiopbnkjbaaGreatDoor

namespace Go.Q
open Go Go.RowKit
theorem cmpS_three : ∀ a b : List UInt8, cmpS a b = -1 ∨ cmpS a b = 0 ∨ cmpS a b = 1
  | [], [] => .inr (.inl rfl)
  | [], _ :: _ => .inl rfl
  | _ :: _, [] => .inr (.inr rfl)
  | x :: a, y :: b => by
    simp only [cmpS]
    split
    · exact cmpS_three a b
    · split
      · exact .inl rfl
      · exact .inr (.inr rfl)
theorem rdnRead_e1 {l : List UInt8} {x : Int} (h : openS (tagOf 17) l = .error x) : rdnReadS l = .error x := by unfold rdnReadS; rw [h]
theorem rdnRead_e2 {l y : List UInt8} {k : Nat} {x : Int} (h : openS (tagOf 17) l = .ok (y, k)) (h2 : rdnSt [] [] y = .error x) : rdnReadS l = .error x := by unfold rdnReadS; rw [h]; simp only [h2]
theorem rdnRead_ok {l y : List UInt8} {k : Nat} {r : List Part} (h : openS (tagOf 17) l = .ok (y, k)) (h2 : rdnSt [] [] y = .ok r) : rdnReadS l = .ok (r, k) := by unfold rdnReadS; rw [h]; simp only [h2]
theorem drop_ne {l : List UInt8} {q : Nat} (h : q < l.length) : l.drop q ≠ [] := by
  intro e
  have := congrArg List.length e
  rw [List.length_drop, List.length_nil] at this
  omega
end Go.Q
namespace Go.Proofs.YtgffhiopbnkjbaaGreatDoor
open Go Go.RowKit Go.Q
set_option linter.unusedSimpArgs false

/-- What rdn gives. -/
def rdnOut (w w' : World) (c : Nat) (K : Nat → Prop) (bs : List UInt8) (p : Nat) (r : Except Int (List Part × Nat)) (e : Ending) : Prop :=
  match r with
  | .ok (l, m) => ∃ a cc, e = .returned (.tuple #[.slice a l.length cc, .int .i64 0]) ∧ Kept (fun W => Attrs W (.slice a l.length cc) l) (fun k => k < w.heap.size) w' ∧ CurAt w' c K bs (p + m)
  | .error x => e = .returned (.tuple #[.slice none 0 0, .int .i64 x]) ∧ x ≠ 0 ∧ ∃ q, p ≤ q ∧ CurAt w' c K bs q

set_option maxRecDepth 20000 in
set_option maxHeartbeats 4000000 in
theorem rdn_any {w : World} {c : Nat} {K : Nat → Prop} {bs : List UInt8} {p : Nat} (h : CurAt w c K bs p) (hbs : bs.length ≤ 10000000) :
    Calls Tryz.prog 66 #[.agg #[pt c]] w fun e w' => rdnOut w w' c K bs p (rdnReadS (bs.drop p)) e ∧ Fr (fun k => k = c) w w' := by
  have hcl := h.lt
  obtain ⟨b0, hb0⟩ : ∃ b0, b0 = w.heap.size := ⟨_, rfl⟩
  have F0 : Fr (fun _ => False) w (w.alloc (.cells #[pt c] 116)) := (Fr.refl w).alloc _
  have B0 := Blk.new w 116 #[pt c]
  have H := Lib.hid (h.step (K' := fun k => K k ∨ w.heap.size ≤ k) F0 (fun _ _ h => h.elim) (fun _ h => h))
  rw [← hb0] at B0
  have hbc : b0 ≠ c := by omega
  have HB0 := Lib.hid hb0
  clear h hb0
  go_enter Tryz.func66, Tryz.ntmps66
  go_upto_region 1 with fail
  rw [← HB0.out]
  generalize (w.alloc (.cells #[pt c] 116)) = w0 at *
  have hs0 := F0.size
  have HF0 := Lib.hid (F0.mono (T := fun k => k = c) (fun _ _ h => h.elim)).drew
  have HH := Lib.hid (H.out.old (Fr.refl w0).drew)
  have e0 : w0.drew.cell? ⟨b0, 0, none⟩ = some (pt c) := B0.cell 0
  have hd0 : w0.drew.heap.size = w0.heap.size := rfl
  clear F0 B0 H
  cases ho : openS (tagOf 17) (bs.drop p) with
  | error x =>
    have hx := openS_nz ho
    have hx1 : (x == 0) = false := beq_eq_false_iff_ne.2 hx
    have hx2 : (x != 0) = true := by simpa using hx
    have HP := Lib.hid (rdnRead_e1 ho)
    have HX := Lib.hid hx
    have HE := Lib.hid (fun w1 (C : CurAt w1 c (fun k => K k ∨ w.heap.size ≤ k) bs p) => open_err C (tagOf 17) ho)
    clear ho hx
    go_region_held3 (fun w' => w'.cell? ⟨b0, 0, none⟩ = some (pt c)) (exact e0) (first
      | (go_at_call 73; refine (headOf_any 17 _).mono ?_; rintro e w1 ⟨rfl, F1⟩; replace e0 := F1.cell e0 (fun h => h); have HO := Lib.hid (HE.out w1 (HH.out.old F1)))
      | (go_at_call 97; refine HO.out.mono ?_; rintro e w2 ⟨rfl, C2, F2⟩; replace e0 := F2.cell e0 hbc))
    have HF2 := Lib.hid ((HF0.out.trans (F1.mono (fun _ _ h => h.elim))).trans F2)
    have HC2 := Lib.hid C2
    clear C2 F2 F1 HO HE HH
    go_wp2_with fail
    refine bodyPost_ret (v := .tuple #[.slice none 0 0, .int .i64 x]) (by simp [results, Tryz.results66, go_sem]) rfl ⟨?_, HF2.out⟩
    rw [HP.out]
    exact ⟨rfl, HX.out, p, Nat.le_refl _, HC2.out.step (K' := K) (Fr.refl w2) (S := fun _ => False) (fun _ _ h => h.elim) (fun k hk => .inl (.inl hk))⟩
  | ok ym =>
    obtain ⟨y, m⟩ := ym
    obtain ⟨-, -, hob3, hob4⟩ := open_back ho tag17
    rw [List.length_drop] at hob3
    have hyl : y.length ≤ 10000000 := by omega
    have HP := Lib.hid ho
    have HE := Lib.hid (fun w1 (C : CurAt w1 c (fun k => K k ∨ w.heap.size ≤ k) bs p) => open_on C (tagOf 17) ho)
    clear ho hob3 hob4 hbs
    go_region_held3 (fun w' => w'.cell? ⟨b0, 0, none⟩ = some (pt c)) (exact e0) (first
      | (go_at_call 73; refine (headOf_any 17 _).mono ?_; rintro e w1 ⟨rfl, F1⟩; replace e0 := F1.cell e0 (fun h => h); have HO := Lib.hid (HE.out w1 (HH.out.old F1)))
      | (go_at_call 97; refine HO.out.mono ?_; rintro e w2 ⟨⟨g, rfl, ⟨hg, hN⟩, C2⟩, F2⟩; replace e0 := F2.cell e0 hbc))
    have HF2 := Lib.hid ((HF0.out.trans (F1.mono (fun _ _ h => h.elim))).trans F2)
    have HC2 := Lib.hid C2
    have hs1 := F1.size
    have hs2 := F2.size
    rw [hd0] at hs1
    have HN := Lib.hid (hN.step (K' := fun k => k < w1.heap.size ∨ w2.heap.size ≤ k) (Fr.refl w2) (S := fun _ => False) (fun _ _ h => h.elim) (fun _ h => h))
    have hgl := hN.lt
    clear C2 F2 F1 HO HE HH hN e0 hd0
    go_wp2_with fail
    go_loopg [6, 7] y.length (fun gk u lv wr => ∃ (l : List Part) (lst : List UInt8) (q : Nat) (a : Option Addr) (cc : Nat), gk = y.length - q ∧ q ≤ y.length ∧ l.length ≤ 16 ∧ u = .slice a l.length cc ∧ GRow 2 RPart (fun k => k < w2.heap.size) 39 wr w2.heap.size (.slice a l.length cc) l ∧ Kept (fun W => Bytes W lv lst) (fun k => k < w2.heap.size) wr ∧ lst.length ≤ 1099511627776 ∧ CurAt wr g (fun k => k < w1.heap.size ∨ w2.heap.size ≤ k) y q ∧ CurAt wr c (fun k => K k ∨ w.heap.size ≤ k) bs (p + m) ∧ Fr (fun k => k = c) w wr ∧ w2.heap.size ≤ wr.heap.size ∧ rdnSt [] [] y = rdnSt l lst (y.drop q))
    case atStart => exact ⟨[], [], 0, none, 0, rfl, Nat.zero_le _, by simp, rfl, GRow.nil _ _ _ _ _ _, fun W _ => Vals.nil W, by simp, HN.out, HC2.out, HF2.out, Nat.le_refl _, rfl⟩
    case round =>
      obtain ⟨l, lst, q, a, cc, hgk, hq, hl16, rfl, hrow, hlst, hlsl, hC, hCc, hF, hsz, hR⟩ := hrel
      have HG := Lib.hid hgk
      have HRW := Lib.hid hrow
      have HLS := Lib.hid hlst
      have HCC := Lib.hid hC
      have HCC2 := Lib.hid hCc
      have HF := Lib.hid hF
      have HR := Lib.hid hR
      have HL := Lib.hid (left_any hC)
      clear hgk hrow hlst hC hCc hF hR HC2 HF2 HN
      by_cases hql : q < y.length
      · obtain ⟨lq, hlq⟩ : ∃ lq, lq = y.length - q := ⟨_, rfl⟩
        rw [← hlq] at HL HG
        have q1 : (0 : Int) < (lq : Int) := by omega
        have HLQ := Lib.hid hlq
        clear hlq
        by_cases h16 : l.length = 16
        · have q3 : ((l.length : Int) == 16) = true := by rw [h16]; rfl
          have q4 : (l.length == 16) = true := by rw [h16]; rfl
          have hp := HR.out
          rw [rdnSt_full (drop_ne hql) h16] at hp
          have HP2 := Lib.hid (rdnRead_e2 HP.out hp)
          clear hp HR HP h16
          go_wp2_with fail
          refine HL.out.mono ?_
          rintro e w4 ⟨rfl, F4⟩
          have HF4 := Lib.hid (HF.out.trans (F4.mono (fun _ _ h => h.elim)))
          have HC4 := Lib.hid (HCC2.out.old F4)
          clear F4 HL HCC
          go_wp2_with fail
          refine bodyPost_ret (v := .tuple #[.slice none 0 0, .int .i64 2]) (by simp [results, Tryz.results66, go_sem]) rfl ⟨?_, HF4.out⟩
          rw [HP2.out]
          exact ⟨rfl, by decide, _, Nat.le_add_right p m, HC4.out.step (K' := K) (Fr.refl w4) (S := fun _ => False) (fun _ _ h => h.elim) (fun k hk => .inl (.inl hk))⟩
        · have q3 : ((l.length : Int) == 16) = false := beq_eq_false_iff_ne.2 (by omega)
          have q4 : (l.length == 16) = false := beq_eq_false_iff_ne.2 (by omega)
          go_wp2_with fail
          refine HL.out.mono ?_
          rintro e w4 ⟨rfl, F4⟩
          have HF4 := Lib.hid (HF.out.trans (F4.mono (fun _ _ h => h.elim)))
          have HC4 := Lib.hid (HCC2.out.old F4)
          have HCG4 := Lib.hid (HCC.out.old F4)
          have HRW4 := Lib.hid (HRW.out.old F4)
          have HLS4 := Lib.hid (HLS.out.old F4)
          have hs4 := F4.size
          have HK4 := Lib.hid HRW4.out.keep
          have HAT := Lib.hid (attr_any HCG4.out)
          clear F4 HL HCC HCC2 HF HRW HLS
          go_wp2_with fail
          refine HAT.out.mono ?_
          rintro e w5 ⟨hout, F5⟩
          have HF5 := Lib.hid (HF4.out.trans' F5 (fun i hi e => by omega))
          have HC5 := Lib.hid (HC4.out.step (K' := fun k => K k ∨ w.heap.size ≤ k) F5 (fun k _ e => .inr (by omega)) (fun _ h => .inl h))
          have HRW5 := Lib.hid (HRW4.out.fr F5 (fun k _ e => by omega) (fun k hk e => by have := (HRW4.out.keep k hk).1; omega))
          have HLS5 := Lib.hid (HLS4.out.step (K' := fun k => k < w2.heap.size) F5 (fun k _ e => by omega) (fun _ h => .inl h))
          have hs5 := F5.size
          clear F5 HAT HF4 HC4 HCG4 HRW4 HLS4
          unfold attrOut at hout
          cases hp : partReadS (y.drop q) with
          | error x =>
            rw [hp] at hout
            obtain ⟨rfl, hx, -⟩ := hout
            have hx1 : (x == 0) = false := beq_eq_false_iff_ne.2 hx
            have hx2 : (x != 0) = true := by simpa using hx
            have hr := HR.out
            rw [rdnSt_err (drop_ne hql) h16 hp] at hr
            have HP2 := Lib.hid (rdnRead_e2 HP.out hr)
            have HX := Lib.hid hx
            clear hr HR HP h16 hp hx
            go_wp2_with fail
            refine bodyPost_ret (v := .tuple #[.slice none 0 0, .int .i64 x]) (by simp [results, Tryz.results66, go_sem]) rfl ⟨?_, HF5.out.alloc _⟩
            rw [HP2.out]
            exact ⟨rfl, HX.out, _, Nat.le_add_right p m, HC5.out.step (K' := K) ((Fr.refl w5).alloc _) (S := fun _ => False) (fun _ _ h => h.elim) (fun k hk => .inl (.inl hk))⟩
          | ok pm =>
            obtain ⟨pt1, m1⟩ := pm
            rw [hp] at hout
            obtain ⟨ao, co, av, cv, rfl, hkp, C5⟩ := hout
            obtain ⟨hb1, hb2, hb3, hb4⟩ := partRead_back hp
            rw [List.length_drop] at hb2 hb4
            have hr := HR.out
            rw [rdnSt_ok h16 hp] at hr
            obtain ⟨one, hone⟩ : ∃ one, one = (y.drop q).take m1 := ⟨_, rfl⟩
            have honel : one.length ≤ 1099511627776 := by rw [hone, List.length_take, List.length_drop]; omega
            rw [← hone] at hb1 hr
            rw [List.drop_drop] at hr
            have F6 : Fr (fun _ => False) w5 (w5.alloc (.cells #[.slice ao pt1.o.length co, .slice av pt1.b.length cv] 39)) := (Fr.refl w5).alloc _
            have B6 := Blk.new w5 39 #[.slice ao pt1.o.length co, .slice av pt1.b.length cv]
            obtain ⟨z, hz⟩ : ∃ z, z = w5.heap.size := ⟨_, rfl⟩
            have HKP := Lib.hid (hkp.old F6)
            have HCG6 := Lib.hid (C5.old F6)
            have HF6 := Lib.hid (HF5.out.alloc (.cells #[.slice ao pt1.o.length co, .slice av pt1.b.length cv] 39))
            have HC6 := Lib.hid (HC5.out.old F6)
            have HRW6 := Lib.hid (HRW5.out.old F6)
            have HLS6 := Lib.hid (HLS5.out.old F6)
            have hs6 := F6.size
            have HRR := Lib.hid hr
            have HB1 := Lib.hid hb1
            rw [← hz] at B6
            have HZ := Lib.hid hz
            have hm1 : y.length - (q + m1) < lq := by have := HLQ.out; omega
            have HM := Lib.hid hm1
            have hqm : q + m1 ≤ y.length := by omega
            have hl15 : l.length + 1 ≤ 16 := by omega
            have hzs : w2.heap.size ≤ z := by omega
            clear hr HR hp hkp C5 hb1 hone F6 hz HF5 HC5 HRW5 HLS5 hm1 h16
            go_upto_region 12 with fail
            rw [← HZ.out]
            generalize (w5.alloc (.cells #[.slice ao pt1.o.length co, .slice av pt1.b.length cv] 39)) = w6 at *
            have HWH := Lib.hid (whole_any _ _ pt1.o pt1.b w6 HKP.out.now.1 HKP.out.now.2 (by omega))
            have SZ := B6.cell
            go_wp2_with fail
            refine HWH.out.mono ?_
            rintro e w7 ⟨v, rfl, hwo, F7⟩
            replace hwo : w7.ownsRow w6.heap.size 5 1 v one.length (Lib.byteCells one) := by
              unfold wholeOut at hwo
              rw [HB1.out] at hwo
              exact hwo
            have HVB := Lib.hid (Vals.of_own hwo).1
            have HOV7 := Lib.hid hwo
            obtain ⟨a1, n1, c1, rfl, rfl⟩ := own_shape hwo
            have HF7 := Lib.hid (HF6.out.trans (F7.mono (fun _ _ h => h.elim)))
            have HC7 := Lib.hid (HC6.out.old F7)
            have HCG7 := Lib.hid (HCG6.out.old F7)
            have HRW7 := Lib.hid (HRW6.out.old F7)
            have HLS7 := Lib.hid (HLS6.out.old F7)
            have HKP7 := Lib.hid (HKP.out.old F7)
            have B7 := B6.fr F7 (fun h => h)
            replace SZ := B7.cell
            have hs7 := F7.size
            have hways : l.length = 0 ∨ (l.length ≠ 0 ∧ cmpS lst one = 0) ∨ (l.length ≠ 0 ∧ cmpS lst one = 1) ∨ (l.length ≠ 0 ∧ cmpS lst one = -1) := by
              have := cmpS_three lst one
              omega
            clear hwo F7 HF6 HC6 HCG6 HRW6 HLS6 HKP HWH HB1 B6
            have hrr := HRR.out
            rcases hways with h0 | ⟨h0, hc⟩ | ⟨h0, hc⟩ | ⟨h0, hc⟩
            case inr.inl =>
              rw [if_pos ⟨h0, hc⟩] at hrr
              have HP2 := Lib.hid (rdnRead_e2 HP.out hrr)
              clear hrr HRR
              have HCM := Lib.hid (compare_any _ _ lst one w7 HLS7.out.now HVB.out hlsl honel)
              rw [hc] at HCM
              have q5 : (0 : Int) < (l.length : Int) := by omega
              have q6 : 0 < l.length := by omega
              clear hc
              go_wp2_with fail
              refine HCM.out.mono ?_
              rintro e w8 ⟨rfl, F8⟩
              have HF8 := Lib.hid (HF7.out.trans (F8.mono (T := fun k => k = c) (fun _ _ h => h.elim)))
              have HC8 := Lib.hid (HC7.out.old F8)
              have HCG8 := Lib.hid (HCG7.out.old F8)
              have HRW8 := Lib.hid (HRW7.out.old F8)
              have HKP8 := Lib.hid (HKP7.out.old F8)
              have HOV8 := Lib.hid (ownsRow_fr HOV7.out F8 (fun _ _ h => h))
              replace SZ := (B7.fr F8 (fun h => h)).cell
              have hs8 := F8.size
              clear F8
              go_wp2_with fail
              refine bodyPost_ret (v := .tuple #[.slice none 0 0, .int .i64 10]) (by simp [results, Tryz.results66, go_sem]) rfl ⟨?_, HF8.out⟩
              rw [HP2.out]
              exact ⟨rfl, by decide, _, Nat.le_add_right p m, HC8.out.step (K' := K) (Fr.refl w8) (S := fun _ => False) (fun _ _ h => h.elim) (fun k hk => .inl (.inl hk))⟩
            case inr.inr.inl =>
              rw [if_neg (by rw [hc]; simp), if_pos ⟨h0, by rw [hc]; decide⟩] at hrr
              have HP2 := Lib.hid (rdnRead_e2 HP.out hrr)
              clear hrr HRR
              have HCM := Lib.hid (compare_any _ _ lst one w7 HLS7.out.now HVB.out hlsl honel)
              rw [hc] at HCM
              have q5 : (0 : Int) < (l.length : Int) := by omega
              have q6 : 0 < l.length := by omega
              clear hc
              go_wp2_with fail
              refine HCM.out.mono ?_
              rintro e w8 ⟨rfl, F8⟩
              have HF8 := Lib.hid (HF7.out.trans (F8.mono (T := fun k => k = c) (fun _ _ h => h.elim)))
              have HC8 := Lib.hid (HC7.out.old F8)
              have HCG8 := Lib.hid (HCG7.out.old F8)
              have HRW8 := Lib.hid (HRW7.out.old F8)
              have HKP8 := Lib.hid (HKP7.out.old F8)
              have HOV8 := Lib.hid (ownsRow_fr HOV7.out F8 (fun _ _ h => h))
              replace SZ := (B7.fr F8 (fun h => h)).cell
              have hs8 := F8.size
              clear F8
              go_wp2_with fail
              refine bodyPost_ret (v := .tuple #[.slice none 0 0, .int .i64 9]) (by simp [results, Tryz.results66, go_sem]) rfl ⟨?_, HF8.out⟩
              rw [HP2.out]
              exact ⟨rfl, by decide, _, Nat.le_add_right p m, HC8.out.step (K' := K) (Fr.refl w8) (S := fun _ => False) (fun _ _ h => h.elim) (fun k hk => .inl (.inl hk))⟩
            case' inl =>
              rw [if_neg (fun h => h.1 h0), if_neg (fun h => h.1 h0)] at hrr
              have HRN := Lib.hid hrr
              have q5 : ¬ (0 : Int) < (l.length : Int) := by omega
              have q6 : ¬ 0 < l.length := by omega
              clear hrr HRR
              obtain ⟨w8, hw8⟩ : ∃ w8 : World, w8 = w7 := ⟨_, rfl⟩
              have F8 : Fr (fun _ => False) w7 w8 := by rw [hw8]; exact Fr.refl _
              have HF8 := Lib.hid (HF7.out.trans (F8.mono (T := fun k => k = c) (fun _ _ h => h.elim)))
              have HC8 := Lib.hid (HC7.out.old F8)
              have HCG8 := Lib.hid (HCG7.out.old F8)
              have HRW8 := Lib.hid (HRW7.out.old F8)
              have HKP8 := Lib.hid (HKP7.out.old F8)
              have HOV8 := Lib.hid (ownsRow_fr HOV7.out F8 (fun _ _ h => h))
              replace SZ := (B7.fr F8 (fun h => h)).cell
              have hs8 := F8.size
              rw [← hw8]
              clear F8 hw8 h0
              go_upto_region 19 with fail
            case' inr.inr.inr =>
              rw [if_neg (by rw [hc]; simp), if_neg (by rw [hc]; simp)] at hrr
              have HRN := Lib.hid hrr
              clear hrr HRR
              have HCM := Lib.hid (compare_any _ _ lst one w7 HLS7.out.now HVB.out hlsl honel)
              rw [hc] at HCM
              have q5 : (0 : Int) < (l.length : Int) := by omega
              have q6 : 0 < l.length := by omega
              clear hc
              go_wp2_with fail
              refine HCM.out.mono ?_
              rintro e w8 ⟨rfl, F8⟩
              have HF8 := Lib.hid (HF7.out.trans (F8.mono (T := fun k => k = c) (fun _ _ h => h.elim)))
              have HC8 := Lib.hid (HC7.out.old F8)
              have HCG8 := Lib.hid (HCG7.out.old F8)
              have HRW8 := Lib.hid (HRW7.out.old F8)
              have HKP8 := Lib.hid (HKP7.out.old F8)
              have HOV8 := Lib.hid (ownsRow_fr HOV7.out F8 (fun _ _ h => h))
              replace SZ := (B7.fr F8 (fun h => h)).cell
              have hs8 := F8.size
              clear F8 HCM
              go_upto_region 19 with fail
            all_goals
              clear HF7 HC7 HCG7 HRW7 HLS7 HKP7 HOV7 B7 HVB
              have hk4 := HK4.out
              have hb9 : w2.heap.size ≤ w8.heap.size := by omega
              obtain ⟨a7, c7, w9, hrun, hrow9, F9, hown9⟩ := GRow.add (s := 41) Tryz.underlying41 info39 rfl (by decide) (by decide) HRW8.out hb9 ((Fr.refl w8).alloc (.cells #[.slice ao pt1.o.length co, .slice av pt1.b.length cv] 39)) w8.heap.size [.slice ao pt1.o.length co, .slice av pt1.b.length cv] rfl (Blk.new w8 _ _) (by intro u hu; simp at hu; rcases hu with rfl | rfl <;> rfl) pt1 (fun W f => ⟨_, _, rfl, HKP8.out W (f.mono (fun k _ hk => by
                rcases hk with hk | hk
                · exact (hk4 k hk).2
                · omega))⟩) (by omega)
              have HCG9 := Lib.hid (HCG8.out.step (K' := fun k => k < w1.heap.size ∨ w2.heap.size ≤ k) F9 (fun k _ e => .inr (hk4 k e).1) (fun _ h => .inl h))
              have HC9 := Lib.hid (HC8.out.step (K' := fun k => K k ∨ w.heap.size ≤ k) F9 (fun k _ e => .inr (by have := (hk4 k e).1; omega)) (fun _ h => .inl h))
              have HF9 := Lib.hid (HF8.out.trans' F9 (fun i hi e => by have := (hk4 i e).1; omega))
              have HLS9 := Lib.hid (own_kept' (ownsRow_fr HOV8.out F9 (fun k hk e => by have := (hk4 k e).2; have := ((Vals.of_own HOV8.out).2 k hk).1; omega)) (fun k => k < w2.heap.size) (fun k hk => by omega))
              have hs9 := F9.size
              have HRUN := Lib.hid hrun
              have HRW9 := Lib.hid hrow9
              clear hrun hrow9 F9 hown9 HRW8 HCG8 HC8 HF8 HKP8 HOV8 hk4
              go_wp2_with (at_builtin; refine wpList_append_run (by rfl) (.tmp 48) (.tmp 50) 41 (by rfl) _ w9 (by exact HRUN.out) ?_)
              go_roundg (y.length - (q + m1))
              case measure => rw [HG.out]; exact HM.out
              case rel => exact ⟨l ++ [pt1], one, q + m1, a7, c7, rfl, hqm, by rw [List.length_append]; exact hl15, by rw [List.length_append]; rfl, by rw [List.length_append]; exact HRW9.out, HLS9.out, honel, HCG9.out, HC9.out, HF9.out, by omega, HRN.out⟩
      · obtain rfl : q = y.length := by omega
        have hr := HR.out
        rw [List.drop_length, rdnSt_end] at hr
        rw [Nat.sub_self] at HL
        have HR2 := Lib.hid hr
        clear hr HR
        by_cases h0 : l.length = 0
        · have q5 : ((l.length : Int) == 0) = true := by rw [h0]; rfl
          have q6 : (l.length == 0) = true := by rw [h0]; rfl
          have hp := HR2.out
          rw [if_pos h0] at hp
          have HP2 := Lib.hid (rdnRead_e2 HP.out hp)
          clear hp HR2 HP h0
          go_wp2_with fail
          refine HL.out.mono ?_
          rintro e w4 ⟨rfl, F4⟩
          have HF4 := Lib.hid (HF.out.trans (F4.mono (fun _ _ h => h.elim)))
          have HC4 := Lib.hid (HCC2.out.old F4)
          clear F4 HL HCC
          go_wp2_with fail
          refine bodyPost_ret (v := .tuple #[.slice none 0 0, .int .i64 6]) (by simp [results, Tryz.results66, go_sem]) rfl ⟨?_, HF4.out⟩
          rw [HP2.out]
          exact ⟨rfl, by decide, _, Nat.le_add_right p m, HC4.out.step (K' := K) (Fr.refl w4) (S := fun _ => False) (fun _ _ h => h.elim) (fun k hk => .inl (.inl hk))⟩
        · have q5 : ((l.length : Int) == 0) = false := beq_eq_false_iff_ne.2 (by omega)
          have q6 : (l.length == 0) = false := beq_eq_false_iff_ne.2 h0
          have hp := HR2.out
          rw [if_neg h0] at hp
          have HP2 := Lib.hid (rdnRead_ok HP.out hp)
          clear hp HR2 HP h0
          go_wp2_with fail
          refine HL.out.mono ?_
          rintro e w4 ⟨rfl, F4⟩
          have HF4 := Lib.hid (HF.out.trans (F4.mono (fun _ _ h => h.elim)))
          have HC4 := Lib.hid (HCC2.out.old F4)
          have HK4 := Lib.hid ((HRW.out.old F4).kept (by decide) (fun k => k < w.heap.size) (fun k hk => by omega))
          clear F4 HL HCC
          go_wp2_with fail
          refine bodyPost_ret (v := .tuple #[.slice a l.length cc, .int .i64 0]) (by simp [results, Tryz.results66, go_sem]) rfl ⟨?_, HF4.out⟩
          rw [HP2.out]
          exact ⟨a, cc, rfl, HK4.out.imp (fun W h => h.attrs), HC4.out.step (K' := K) (Fr.refl w4) (S := fun _ => False) (fun _ _ h => h.elim) (fun k hk => .inl (.inl hk))⟩
end Go.Proofs.YtgffhiopbnkjbaaGreatDoor

namespace Go.Q
open Go Go.RowKit
theorem nameRead_e1 {l : List UInt8} {x : Int} (h : openS (tagOf 16) l = .error x) : nameReadS l = .error x := by unfold nameReadS; rw [h]
theorem nameRead_e2 {l y : List UInt8} {k : Nat} {x : Int} (h : openS (tagOf 16) l = .ok (y, k)) (h2 : nameSt [] y = .error x) : nameReadS l = .error x := by unfold nameReadS; rw [h]; simp only [h2]
theorem nameRead_ok {l y : List UInt8} {k : Nat} {r : List (List Part)} (h : openS (tagOf 16) l = .ok (y, k)) (h2 : nameSt [] y = .ok r) : nameReadS l = .ok (r, k) := by unfold nameReadS; rw [h]; simp only [h2]
end Go.Q
namespace Go.Proofs.YtgffhiopbnkjbaaGreatDoor
open Go Go.RowKit Go.Q
set_option linter.unusedSimpArgs false

/-- What name gives. -/
def nameOut (w w' : World) (c : Nat) (K : Nat → Prop) (bs : List UInt8) (p : Nat) (r : Except Int (List (List Part) × Nat)) (e : Ending) : Prop :=
  match r with
  | .ok (l, m) => ∃ a cc, e = .returned (.tuple #[.slice a l.length cc, .int .i64 0]) ∧ Kept (fun W => NameAt W (.slice a l.length cc) l) (fun k => k < w.heap.size) w' ∧ CurAt w' c K bs (p + m)
  | .error x => e = .returned (.tuple #[.slice none 0 0, .int .i64 x]) ∧ x ≠ 0 ∧ ∃ q, p ≤ q ∧ CurAt w' c K bs q

set_option maxRecDepth 20000 in
set_option maxHeartbeats 4000000 in
theorem nameR_any {w : World} {c : Nat} {K : Nat → Prop} {bs : List UInt8} {p : Nat} (h : CurAt w c K bs p) (hbs : bs.length ≤ 10000000) :
    Calls Tryz.prog 63 #[.agg #[pt c]] w fun e w' => nameOut w w' c K bs p (nameReadS (bs.drop p)) e ∧ Fr (fun k => k = c) w w' := by
  have hcl := h.lt
  obtain ⟨b0, hb0⟩ : ∃ b0, b0 = w.heap.size := ⟨_, rfl⟩
  have F0 : Fr (fun _ => False) w (w.alloc (.cells #[pt c] 116)) := (Fr.refl w).alloc _
  have B0 := Blk.new w 116 #[pt c]
  have H := Lib.hid (h.step (K' := fun k => K k ∨ w.heap.size ≤ k) F0 (fun _ _ h => h.elim) (fun _ h => h))
  rw [← hb0] at B0
  have hbc : b0 ≠ c := by omega
  have HB0 := Lib.hid hb0
  clear h hb0
  go_enter Tryz.func63, Tryz.ntmps63
  go_upto_region 1 with fail
  rw [← HB0.out]
  generalize (w.alloc (.cells #[pt c] 116)) = w0 at *
  have hs0 := F0.size
  have HF0 := Lib.hid (F0.mono (T := fun k => k = c) (fun _ _ h => h.elim)).drew
  have HH := Lib.hid (H.out.old (Fr.refl w0).drew)
  have e0 : w0.drew.cell? ⟨b0, 0, none⟩ = some (pt c) := B0.cell 0
  have hd0 : w0.drew.heap.size = w0.heap.size := rfl
  clear F0 B0 H
  cases ho : openS (tagOf 16) (bs.drop p) with
  | error x =>
    have hx := openS_nz ho
    have hx1 : (x == 0) = false := beq_eq_false_iff_ne.2 hx
    have hx2 : (x != 0) = true := by simpa using hx
    have HP := Lib.hid (nameRead_e1 ho)
    have HX := Lib.hid hx
    have HE := Lib.hid (fun w1 (C : CurAt w1 c (fun k => K k ∨ w.heap.size ≤ k) bs p) => open_err C (tagOf 16) ho)
    clear ho hx
    go_region_held3 (fun w' => w'.cell? ⟨b0, 0, none⟩ = some (pt c)) (exact e0) (first
      | (go_at_call 73; refine (headOf_any 16 _).mono ?_; rintro e w1 ⟨rfl, F1⟩; replace e0 := F1.cell e0 (fun h => h); have HO := Lib.hid (HE.out w1 (HH.out.old F1)))
      | (go_at_call 97; refine HO.out.mono ?_; rintro e w2 ⟨rfl, C2, F2⟩; replace e0 := F2.cell e0 hbc))
    have HF2 := Lib.hid ((HF0.out.trans (F1.mono (fun _ _ h => h.elim))).trans F2)
    have HC2 := Lib.hid C2
    clear C2 F2 F1 HO HE HH
    go_wp2_with fail
    refine bodyPost_ret (v := .tuple #[.slice none 0 0, .int .i64 x]) (by simp [results, Tryz.results63, go_sem]) rfl ⟨?_, HF2.out⟩
    rw [HP.out]
    exact ⟨rfl, HX.out, p, Nat.le_refl _, HC2.out.step (K' := K) (Fr.refl w2) (S := fun _ => False) (fun _ _ h => h.elim) (fun k hk => .inl (.inl hk))⟩
  | ok ym =>
    obtain ⟨y, m⟩ := ym
    obtain ⟨-, -, hob3, hob4⟩ := open_back ho tag16
    rw [List.length_drop] at hob3
    have hyl : y.length ≤ 10000000 := by omega
    have HP := Lib.hid ho
    have HE := Lib.hid (fun w1 (C : CurAt w1 c (fun k => K k ∨ w.heap.size ≤ k) bs p) => open_on C (tagOf 16) ho)
    clear ho hob3 hob4 hbs
    go_region_held3 (fun w' => w'.cell? ⟨b0, 0, none⟩ = some (pt c)) (exact e0) (first
      | (go_at_call 73; refine (headOf_any 16 _).mono ?_; rintro e w1 ⟨rfl, F1⟩; replace e0 := F1.cell e0 (fun h => h); have HO := Lib.hid (HE.out w1 (HH.out.old F1)))
      | (go_at_call 97; refine HO.out.mono ?_; rintro e w2 ⟨⟨g, rfl, ⟨hg, hN⟩, C2⟩, F2⟩; replace e0 := F2.cell e0 hbc))
    have hs1 := F1.size
    have hs2 := F2.size
    rw [hd0] at hs1
    have F3 : Fr (fun _ => False) w2 (w2.alloc (.cells #[] 41)) := (Fr.refl w2).alloc _
    have HF2 := Lib.hid (((HF0.out.trans (F1.mono (fun _ _ h => h.elim))).trans F2).trans (F3.mono (fun _ _ h => h.elim)))
    have HC2 := Lib.hid (C2.old F3)
    have HN := Lib.hid ((hN.step (K' := fun k => k < w1.heap.size ∨ w2.heap.size ≤ k) (Fr.refl w2) (S := fun _ => False) (fun _ _ h => h.elim) (fun _ h => h)).old F3)
    have hgl := hN.lt
    have N0 : GRow 1 RStep (fun k => k < w2.heap.size) 41 (w2.alloc (.cells #[] 41)) w2.heap.size (.slice (some ⟨w2.heap.size, 0, none⟩) 0 0) [] := ⟨[], own_block (Blk.new w2 41 #[]) 0 (Nat.le_refl _) (Nat.zero_le _) w2.heap.size (Nat.le_refl _), fun i u h => by simp at h⟩
    have HN0 := Lib.hid N0
    have hs3 := F3.size
    clear C2 F2 F1 HO HE HH hN e0 hd0 F3 N0
    go_wp2_with fail
    go_loopg [6] y.length (fun gk u wr => ∃ (l : List (List Part)) (q : Nat) (a : Option Addr) (cc : Nat), gk = y.length - q ∧ q ≤ y.length ∧ l.length ≤ 64 ∧ u = .slice a l.length cc ∧ GRow 1 RStep (fun k => k < w2.heap.size) 41 wr w2.heap.size (.slice a l.length cc) l ∧ CurAt wr g (fun k => k < w1.heap.size ∨ w2.heap.size ≤ k) y q ∧ CurAt wr c (fun k => K k ∨ w.heap.size ≤ k) bs (p + m) ∧ Fr (fun k => k = c) w wr ∧ w2.heap.size ≤ wr.heap.size ∧ nameSt [] y = nameSt l (y.drop q))
    case atStart => exact ⟨[], 0, _, 0, rfl, Nat.zero_le _, by simp, rfl, HN0.out, HN.out, HC2.out, HF2.out, hs3, rfl⟩
    case round =>
      obtain ⟨l, q, a, cc, hgk, hq, hl64, rfl, hrow, hC, hCc, hF, hsz, hR⟩ := hrel
      have HG := Lib.hid hgk
      have HRW := Lib.hid hrow
      have HCC := Lib.hid hC
      have HCC2 := Lib.hid hCc
      have HF := Lib.hid hF
      have HR := Lib.hid hR
      have HL := Lib.hid (left_any hC)
      clear hgk hrow hC hCc hF hR HC2 HF2 HN HN0
      by_cases hql : q < y.length
      · obtain ⟨lq, hlq⟩ : ∃ lq, lq = y.length - q := ⟨_, rfl⟩
        rw [← hlq] at HL HG
        have q1 : (0 : Int) < (lq : Int) := by omega
        have HLQ := Lib.hid hlq
        clear hlq
        by_cases h64 : l.length = 64
        · have q3 : ((l.length : Int) == 64) = true := by rw [h64]; rfl
          have q4 : (l.length == 64) = true := by rw [h64]; rfl
          have hp := HR.out
          rw [nameSt_full (drop_ne hql) h64] at hp
          have HP2 := Lib.hid (nameRead_e2 HP.out hp)
          clear hp HR HP h64
          go_wp2_with fail
          refine HL.out.mono ?_
          rintro e w4 ⟨rfl, F4⟩
          have HF4 := Lib.hid (HF.out.trans (F4.mono (fun _ _ h => h.elim)))
          have HC4 := Lib.hid (HCC2.out.old F4)
          clear F4 HL HCC
          go_wp2_with fail
          refine bodyPost_ret (v := .tuple #[.slice none 0 0, .int .i64 2]) (by simp [results, Tryz.results63, go_sem]) rfl ⟨?_, HF4.out⟩
          rw [HP2.out]
          exact ⟨rfl, by decide, _, Nat.le_add_right p m, HC4.out.step (K' := K) (Fr.refl w4) (S := fun _ => False) (fun _ _ h => h.elim) (fun k hk => .inl (.inl hk))⟩
        · have q3 : ((l.length : Int) == 64) = false := beq_eq_false_iff_ne.2 (by omega)
          have q4 : (l.length == 64) = false := beq_eq_false_iff_ne.2 (by omega)
          go_wp2_with fail
          refine HL.out.mono ?_
          rintro e w4 ⟨rfl, F4⟩
          have HF4 := Lib.hid (HF.out.trans (F4.mono (fun _ _ h => h.elim)))
          have HC4 := Lib.hid (HCC2.out.old F4)
          have HCG4 := Lib.hid (HCC.out.old F4)
          have HRW4 := Lib.hid (HRW.out.old F4)
          have hs4 := F4.size
          have HK4 := Lib.hid HRW4.out.keep
          have HAT := Lib.hid (rdn_any HCG4.out hyl)
          clear F4 HL HCC HCC2 HF HRW
          go_wp2_with fail
          refine HAT.out.mono ?_
          rintro e w5 ⟨hout, F5⟩
          have HF5 := Lib.hid (HF4.out.trans' F5 (fun i hi e => by omega))
          have HC5 := Lib.hid (HC4.out.step (K' := fun k => K k ∨ w.heap.size ≤ k) F5 (fun k _ e => .inr (by omega)) (fun _ h => .inl h))
          have HRW5 := Lib.hid (HRW4.out.fr F5 (fun k _ e => by omega) (fun k hk e => by have := (HRW4.out.keep k hk).1; omega))
          have hs5 := F5.size
          clear F5 HAT HF4 HC4 HCG4 HRW4
          unfold rdnOut at hout
          cases hp : rdnReadS (y.drop q) with
          | error x =>
            rw [hp] at hout
            obtain ⟨rfl, hx, -⟩ := hout
            have hx1 : (x == 0) = false := beq_eq_false_iff_ne.2 hx
            have hx2 : (x != 0) = true := by simpa using hx
            have hr := HR.out
            rw [nameSt_err (drop_ne hql) h64 hp] at hr
            have HP2 := Lib.hid (nameRead_e2 HP.out hr)
            have HX := Lib.hid hx
            clear hr HR HP h64 hp hx
            go_wp2_with fail
            refine bodyPost_ret (v := .tuple #[.slice none 0 0, .int .i64 x]) (by simp [results, Tryz.results63, go_sem]) rfl ⟨?_, HF5.out⟩
            rw [HP2.out]
            exact ⟨rfl, HX.out, _, Nat.le_add_right p m, HC5.out.step (K' := K) (Fr.refl w5) (S := fun _ => False) (fun _ _ h => h.elim) (fun k hk => .inl (.inl hk))⟩
          | ok rm =>
            obtain ⟨r, m1⟩ := rm
            rw [hp] at hout
            obtain ⟨ar, cr, rfl, hkp, C5⟩ := hout
            obtain ⟨hb2, hb3⟩ := rdnRead_len hp
            rw [List.length_drop] at hb2
            have hr := HR.out
            rw [nameSt_ok h64 hp, List.drop_drop] at hr
            have HRN := Lib.hid hr
            have HM := Lib.hid (show y.length - (q + m1) < lq from by have := HLQ.out; omega)
            have hqm : q + m1 ≤ y.length := by omega
            have hl63 : l.length + 1 ≤ 64 := by omega
            have hk4 := HK4.out
            obtain ⟨a7, c7, w9, hrun, hrow9, F9, hown9⟩ := GRow.add (s := 33) Tryz.underlying33 info41 rfl (by decide) (by decide) HRW5.out (by omega) ((Fr.refl w5).alloc (.cells #[.slice ar r.length cr] 41)) w5.heap.size [.slice ar r.length cr] rfl (Blk.new w5 _ _) (by intro u hu; simp at hu; subst hu; rfl) r (fun W f => ⟨_, rfl, hkp W (f.mono (fun k _ hk => by
              rcases hk with hk | hk
              · exact (hk4 k hk).2
              · omega))⟩) (by omega)
            have HCG9 := Lib.hid (C5.step (K' := fun k => k < w1.heap.size ∨ w2.heap.size ≤ k) F9 (fun k _ e => .inr (hk4 k e).1) (fun _ h => .inl h))
            have HC9 := Lib.hid (HC5.out.step (K' := fun k => K k ∨ w.heap.size ≤ k) F9 (fun k _ e => .inr (by have := (hk4 k e).1; omega)) (fun _ h => .inl h))
            have HF9 := Lib.hid (HF5.out.trans' F9 (fun i hi e => by have := (hk4 i e).1; omega))
            have hs9 := F9.size
            have HRUN := Lib.hid hrun
            have HRW9 := Lib.hid hrow9
            clear hr HR hp hkp C5 h64 hrun hrow9 F9 hown9 HRW5 HC5 HF5 hk4 hb2 hb3
            go_wp2_with (at_builtin; refine wpList_append_run (by rfl) (.tmp 35) (.tmp 37) 33 (by rfl) _ w9 (by exact HRUN.out) ?_)
            go_roundg (y.length - (q + m1))
            case measure => rw [HG.out]; exact HM.out
            case rel => exact ⟨l ++ [r], q + m1, a7, c7, rfl, hqm, by rw [List.length_append]; exact hl63, by rw [List.length_append]; rfl, by rw [List.length_append]; exact HRW9.out, HCG9.out, HC9.out, HF9.out, by omega, HRN.out⟩
      · obtain rfl : q = y.length := by omega
        have hr := HR.out
        rw [List.drop_length] at hr
        rw [Nat.sub_self] at HL
        have HP2 := Lib.hid (nameRead_ok HP.out (hr.trans rfl))
        clear hr HR HP
        go_wp2_with fail
        refine HL.out.mono ?_
        rintro e w4 ⟨rfl, F4⟩
        have HF4 := Lib.hid (HF.out.trans (F4.mono (fun _ _ h => h.elim)))
        have HC4 := Lib.hid (HCC2.out.old F4)
        have HK4 := Lib.hid ((HRW.out.old F4).kept (by decide) (fun k => k < w.heap.size) (fun k hk => by omega))
        clear F4 HL HCC
        go_wp2_with fail
        refine bodyPost_ret (v := .tuple #[.slice a l.length cc, .int .i64 0]) (by simp [results, Tryz.results63, go_sem]) rfl ⟨?_, HF4.out⟩
        rw [HP2.out]
        exact ⟨a, cc, rfl, HK4.out.imp (fun W h => h.name), HC4.out.step (K' := K) (Fr.refl w4) (S := fun _ => False) (fun _ _ h => h.elim) (fun k hk => .inl (.inl hk))⟩

/-- What Read gives. -/
def nameReadOut (w w' : World) (c : Nat) (K : Nat → Prop) (bs : List UInt8) (p : Nat) (r : Except Int (List (List Part) × Nat)) (e : Ending) : Prop :=
  match r with
  | .ok (l, m) => ∃ a cc, e = .returned (.tuple #[.slice a l.length cc, .int .i64 0]) ∧ Kept (fun W => NameAt W (.slice a l.length cc) l) (fun k => k < w.heap.size) w' ∧ CurAt w' c K bs (p + m)
  | .error x => e = .returned (.tuple #[.slice none 0 0, .int .i64 x]) ∧ x ≠ 0 ∧ CurAt w' c K bs p

set_option maxRecDepth 20000 in
set_option maxHeartbeats 1000000 in
theorem nameRead_any {w : World} {c : Nat} {K : Nat → Prop} {bs : List UInt8} {p : Nat} (h : CurAt w c K bs p) (hbs : bs.length ≤ 10000000) :
    Calls Tryz.prog 31 #[pt c] w fun e w' => nameReadOut w w' c K bs p (nameReadS (bs.drop p)) e ∧ Fr (fun k => k = c) w w' := by
  have HA := Lib.hid (at_any h)
  have HN := Lib.hid (nameR_any h hbs)
  clear h
  go_enter Tryz.func31, Tryz.ntmps31
  go_wp2_with fail
  refine HA.out.mono ?_
  rintro e w0 ⟨rfl, rfl⟩
  go_wp2_with fail
  refine HN.out.mono ?_
  rintro e w1 ⟨hout, F1⟩
  have HF1 := Lib.hid F1
  clear HA HN F1
  unfold nameOut at hout
  cases hr : nameReadS (bs.drop p) with
  | error x =>
    rw [hr] at hout
    obtain ⟨rfl, hx, q, hq, C1⟩ := hout
    have hx1 : (x == 0) = false := beq_eq_false_iff_ne.2 hx
    have hx2 : (x != 0) = true := by simpa using hx
    have HB := Lib.hid (back_any C1 p hq)
    have HR := Lib.hid hr
    have HX := Lib.hid hx
    clear hr hx C1
    go_wp2_with fail
    refine HB.out.mono ?_
    rintro e w2 ⟨rfl, C2, F2⟩
    have HC2 := Lib.hid C2
    have HF2 := Lib.hid (HF1.out.trans F2)
    clear C2 F2 HB
    go_wp2_with fail
    refine bodyPost_ret (v := .tuple #[.slice none 0 0, .int .i64 x]) (by simp [results, Tryz.results31, go_sem]) rfl ⟨?_, HF2.out⟩
    rw [HR.out]
    exact ⟨rfl, HX.out, HC2.out⟩
  | ok lm =>
    obtain ⟨l, m⟩ := lm
    rw [hr] at hout
    obtain ⟨a, cc, rfl, hk, C1⟩ := hout
    have HK := Lib.hid hk
    have HC := Lib.hid C1
    have HR := Lib.hid hr
    clear hr hk C1
    go_wp2_with fail
    refine bodyPost_ret (v := .tuple #[.slice a l.length cc, .int .i64 0]) (by simp [results, Tryz.results31, go_sem]) rfl ⟨?_, HF1.out⟩
    rw [HR.out]
    exact ⟨a, cc, rfl, HK.out, HC.out⟩

/-- What ReadRdn gives. -/
def rdnReadOut (w w' : World) (c : Nat) (K : Nat → Prop) (bs : List UInt8) (p : Nat) (r : Except Int (List Part × Nat)) (e : Ending) : Prop :=
  match r with
  | .ok (l, m) => ∃ a cc, e = .returned (.tuple #[.slice a l.length cc, .int .i64 0]) ∧ Kept (fun W => Attrs W (.slice a l.length cc) l) (fun k => k < w.heap.size) w' ∧ CurAt w' c K bs (p + m)
  | .error x => e = .returned (.tuple #[.slice none 0 0, .int .i64 x]) ∧ x ≠ 0 ∧ CurAt w' c K bs p

set_option maxRecDepth 20000 in
set_option maxHeartbeats 1000000 in
theorem rdnRead_any {w : World} {c : Nat} {K : Nat → Prop} {bs : List UInt8} {p : Nat} (h : CurAt w c K bs p) (hbs : bs.length ≤ 10000000) :
    Calls Tryz.prog 33 #[pt c] w fun e w' => rdnReadOut w w' c K bs p (rdnReadS (bs.drop p)) e ∧ Fr (fun k => k = c) w w' := by
  have HA := Lib.hid (at_any h)
  have HN := Lib.hid (rdn_any h hbs)
  clear h
  go_enter Tryz.func33, Tryz.ntmps33
  go_wp2_with fail
  refine HA.out.mono ?_
  rintro e w0 ⟨rfl, rfl⟩
  go_wp2_with fail
  refine HN.out.mono ?_
  rintro e w1 ⟨hout, F1⟩
  have HF1 := Lib.hid F1
  clear HA HN F1
  unfold rdnOut at hout
  cases hr : rdnReadS (bs.drop p) with
  | error x =>
    rw [hr] at hout
    obtain ⟨rfl, hx, q, hq, C1⟩ := hout
    have hx1 : (x == 0) = false := beq_eq_false_iff_ne.2 hx
    have hx2 : (x != 0) = true := by simpa using hx
    have HB := Lib.hid (back_any C1 p hq)
    have HR := Lib.hid hr
    have HX := Lib.hid hx
    clear hr hx C1
    go_wp2_with fail
    refine HB.out.mono ?_
    rintro e w2 ⟨rfl, C2, F2⟩
    have HC2 := Lib.hid C2
    have HF2 := Lib.hid (HF1.out.trans F2)
    clear C2 F2 HB
    go_wp2_with fail
    refine bodyPost_ret (v := .tuple #[.slice none 0 0, .int .i64 x]) (by simp [results, Tryz.results33, go_sem]) rfl ⟨?_, HF2.out⟩
    rw [HR.out]
    exact ⟨rfl, HX.out, HC2.out⟩
  | ok lm =>
    obtain ⟨l, m⟩ := lm
    rw [hr] at hout
    obtain ⟨a, cc, rfl, hk, C1⟩ := hout
    have HK := Lib.hid hk
    have HC := Lib.hid C1
    have HR := Lib.hid hr
    clear hr hk C1
    go_wp2_with fail
    refine bodyPost_ret (v := .tuple #[.slice a l.length cc, .int .i64 0]) (by simp [results, Tryz.results33, go_sem]) rfl ⟨?_, HF1.out⟩
    rw [HR.out]
    exact ⟨a, cc, rfl, HK.out, HC.out⟩

/-- What Parse gives. -/
def nameParseOut (w w' : World) (r : Except Int (List (List Part))) (e : Ending) : Prop :=
  match r with
  | .ok l => ∃ a cc, e = .returned (.tuple #[.slice a l.length cc, .int .i64 0]) ∧ Kept (fun W => NameAt W (.slice a l.length cc) l) (fun k => k < w.heap.size) w'
  | .error x => e = .returned (.tuple #[.slice none 0 0, .int .i64 x]) ∧ x ≠ 0

set_option maxRecDepth 20000 in
set_option maxHeartbeats 1000000 in
theorem nameParse_any (v : Value) (bs : List UInt8) (w : World) (h : Bytes w v bs) (hbs : bs.length ≤ 10000000) :
    Calls Tryz.prog 35 #[v] w fun e w' => nameParseOut w w' (nameParseS bs) e ∧ Fr (fun _ => False) w w' := by
  have hN := Lib.hid (new_any w v bs h (by omega))
  have HPS := Lib.hid (show nameParseS bs = match nameReadS bs with | .error e => .error e | .ok (n, k) => if k < bs.length then .error 7 else .ok n from rfl)
  clear h
  go_enter Tryz.func35, Tryz.ntmps35
  go_wp2_with fail
  refine hN.out.mono ?_
  rintro e w1 ⟨rfl, C1, F1⟩
  obtain ⟨c, hc⟩ : ∃ c, c = w.heap.size := ⟨_, rfl⟩
  have HF1 := Lib.hid F1
  have hs1 := F1.size
  have HX := Lib.hid (nameRead_any C1 hbs)
  rw [List.drop_zero] at HX
  rw [← hc] at HX ⊢
  have HC := Lib.hid hc
  clear C1 F1 hN hc
  go_wp2_with fail
  refine HX.out.mono ?_
  rintro e w2 ⟨hout, F2⟩
  have HF2 := Lib.hid (HF1.out.trans' F2 (fun i hi e => absurd hi (by rw [e, HC.out]; exact Nat.lt_irrefl _)))
  clear F2 HX HF1
  unfold nameReadOut at hout
  cases hr : nameReadS bs with
  | error x =>
    rw [hr] at hout
    obtain ⟨rfl, hx, -⟩ := hout
    have hx1 : (x == 0) = false := beq_eq_false_iff_ne.2 hx
    have hx2 : (x != 0) = true := by simpa using hx
    have hp := HPS.out
    rw [hr] at hp
    have HP := Lib.hid hp
    have HX := Lib.hid hx
    clear hr hx hp HPS
    go_wp2_with fail
    refine bodyPost_ret (v := .tuple #[.slice none 0 0, .int .i64 x]) (by simp [results, Tryz.results35, go_sem]) rfl ⟨?_, HF2.out⟩
    rw [HP.out]
    exact ⟨rfl, HX.out⟩
  | ok lm =>
    obtain ⟨l, m⟩ := lm
    rw [hr] at hout
    obtain ⟨a, cc, rfl, hk, C2⟩ := hout
    have hp := HPS.out
    rw [hr] at hp
    simp only at hp
    have HL := Lib.hid (left_any C2)
    rw [Nat.zero_add] at HL
    have HK := Lib.hid hk
    clear hr hk C2 HPS
    by_cases hm : m < bs.length
    · have q1 : (0 : Int) < ((bs.length - m : Nat) : Int) := by omega
      rw [if_pos hm] at hp
      have HP := Lib.hid hp
      clear hp hm
      generalize bs.length - m = lm at *
      go_wp2_with fail
      refine HL.out.mono ?_
      rintro e w3 ⟨rfl, F3⟩
      have HF3 := Lib.hid (HF2.out.trans F3)
      clear F3 HL
      go_wp2_with fail
      refine bodyPost_ret (v := .tuple #[.slice none 0 0, .int .i64 7]) (by simp [results, Tryz.results35, go_sem]) rfl ⟨?_, HF3.out⟩
      rw [HP.out]
      exact ⟨rfl, by decide⟩
    · have q1 : bs.length - m = 0 := by omega
      rw [if_neg hm] at hp
      have HP := Lib.hid hp
      rw [q1] at HL
      clear hp hm q1
      go_wp2_with fail
      refine HL.out.mono ?_
      rintro e w3 ⟨rfl, F3⟩
      have HF3 := Lib.hid (HF2.out.trans F3)
      have HK3 := Lib.hid (HK.out.old F3)
      clear F3 HL HK
      go_wp2_with fail
      refine bodyPost_ret (v := .tuple #[.slice a l.length cc, .int .i64 0]) (by simp [results, Tryz.results35, go_sem]) rfl ⟨?_, HF3.out⟩
      rw [HP.out]
      exact ⟨a, cc, rfl, fun W f => HK3.out W (f.mono (fun k _ hk => Nat.lt_of_lt_of_le hk hs1))⟩
end Go.Proofs.YtgffhiopbnkjbaaGreatDoor

namespace Go.Q
open Go Go.RowKit
/-- A row of parts of one's own, its types and values read in w. -/
def ARow (t : TypeId) (w wr : World) (base : Nat) (v : Value) (l : List Part) : Prop :=
  ∃ cs : List Value, wr.ownsRow base t 2 v l.length cs ∧ ∀ (i : Nat) (p : Part), l[i]? = some p → ∃ x y, cs[2 * i]? = some x ∧ cs[2 * i + 1]? = some y ∧ Vals w x (intCells p.o) ∧ Bytes w y p.b
theorem ARow.at {t : TypeId} {w wr : World} {base : Nat} {v : Value} {l : List Part} (h : ARow t w wr base v l) (F : Fr (fun _ => False) w wr) : Attrs wr v l := by
  obtain ⟨cs, ⟨h1, h2⟩, h3⟩ := h
  rcases h2 with ⟨rfl, h0⟩ | ⟨g, cap, cur, rfl, hg, hh, hnc, hcm, hcs, htk⟩
  · exact ⟨none, 0, by rw [h0], by omega, by unfold maxLen; omega, fun h => by omega⟩
  · refine ⟨_, cap, rfl, hnc, hcm, fun _ => ⟨g, 0, rfl, fun i p hp => ?_⟩⟩
    obtain ⟨x, y, e1, e2, e3, e4⟩ := h3 i p hp
    have hi := (List.getElem?_eq_some_iff.1 hp).1
    have gc : ∀ k, k < l.length * 2 → wr.cell? ⟨g, 0 + k, none⟩ = cs[k]? := fun k hk => by
      have := congrArg (fun z : List Value => z[k]?) htk
      simp only [List.getElem?_take, if_pos hk, Array.getElem?_toList] at this
      rw [Nat.zero_add]
      simp only [World.cell?, hh]
      exact this
    refine ⟨x, y, ?_, ?_, e3.old F, e4.old F⟩
    · rw [gc (2 * i) (by omega)]; exact e1
    · rw [Nat.add_assoc, gc (2 * i + 1) (by omega)]; exact e2
theorem ARow.nil (t : TypeId) (w wr : World) (base : Nat) : ARow t w wr base (.slice none 0 0) [] := ⟨[], ⟨rfl, .inl ⟨rfl, rfl⟩⟩, fun i p hp => by simp at hp⟩
theorem ARow.shape {t : TypeId} {w wr : World} {base : Nat} {v : Value} {l : List Part} (h : ARow t w wr base v l) : ∃ a c, v = .slice a l.length c := by
  obtain ⟨us, h1, -⟩ := h
  obtain ⟨a, m, c, rfl, rfl⟩ := own_shape h1
  exact ⟨a, c, rfl⟩
theorem ARow.keep {t : TypeId} {w wr : World} {base : Nat} {v : Value} {l : List Part} (h : ARow t w wr base v l) : ∀ k, v.ownBlock = some k → base ≤ k ∧ k < wr.heap.size := fun k hk => by
  obtain ⟨us, h1, -⟩ := h
  exact h1.lt k hk
theorem ARow.fr {t : TypeId} {S : Nat → Prop} {w wr w' : World} {base : Nat} {v : Value} {l : List Part} (h : ARow t w wr base v l) (f : Fr S wr w') (hS : ∀ k, v.ownBlock = some k → ¬ S k) : ARow t w w' base v l := by
  obtain ⟨us, h1, h2⟩ := h
  exact ⟨us, Go.Proofs.YtgffhiopbnkjbaaGreatDoor.ownsRow_fr h1 f hS, h2⟩
/-- Others' changes leave it. -/
theorem ARow.kept {t : TypeId} {w wr : World} {base : Nat} {v : Value} {l : List Part} (h : ARow t w wr base v l) (F : Fr (fun _ => False) w wr) (K : Nat → Prop) (hK : ∀ k, K k → w.heap.size ≤ k ∧ k < base) : Kept (fun W => Attrs W v l) K wr := fun W f =>
  (h.fr f (fun k hk h1 => by have := (h.keep k hk).1; have := (hK k h1).2; omega)).at (F.trans' f (fun i hi h1 => by have := (hK i h1).1; omega))
/-- A part more. -/
theorem ARow.add {P : Program} {t s : TypeId} (hu0 : P.underlying s = some (.slice t)) (hinf : Info P t (.agg #[.slice none 0 0, .slice none 0 0]) 2 48) {w wr wa : World} {base : Nat} {v x y : Value} {l : List Part} (h : ARow t w wr base v l) (hb : base ≤ wr.heap.size) (F1 : Fr (fun _ => False) wr wa) (g : Nat) (BX : Blk wa g t #[x, y]) (p : Part) (hx : Ints w x p.o) (hy : Bytes w y p.b) (hn : l.length ≤ 109951162777) :
    ∃ a c w', (Builtin.append_ #[s, s] s #[v, .slice (some ⟨g, 0, none⟩) 1 1]).run P wa = .ok (.slice a (l.length + 1) c) w' ∧ ARow t w w' base (.slice a (l.length + 1) c) (l ++ [p]) ∧ Fr (fun k => v.ownBlock = some k) wr w' := by
  obtain ⟨cs, h1, h2⟩ := h
  have hcl : cs.length = l.length * 2 := h1.1
  obtain ⟨ax, cx, rfl, -⟩ := Ints.form hx
  obtain ⟨ay, cy, rfl, -⟩ := Vals.form hy
  obtain ⟨a, c, w', hrun, h4, F2, h5⟩ := add_gen hu0 hinf rfl (by decide) (by decide) h1 hb F1 g [.slice ax p.o.length cx, .slice ay p.b.length cy] rfl BX (by intro u hu; simp at hu; rcases hu with rfl | rfl <;> rfl) hn
  refine ⟨a, c, w', hrun, ⟨cs ++ [.slice ax p.o.length cx, .slice ay p.b.length cy], by rw [List.length_append]; exact h4, fun i q hq => ?_⟩, F2⟩
  rcases Nat.lt_or_ge i l.length with hi | hi
  · rw [List.getElem?_append_left hi] at hq
    obtain ⟨x, y, e1, e2, e3⟩ := h2 i q hq
    exact ⟨x, y, by rw [List.getElem?_append_left (by omega)]; exact e1, by rw [List.getElem?_append_left (by omega)]; exact e2, e3⟩
  · obtain rfl : i = l.length := by
      have := (List.getElem?_eq_some_iff.1 hq).1
      simp at this
      omega
    rw [List.getElem?_append_right (Nat.le_refl _)] at hq
    simp at hq
    subst hq
    refine ⟨_, _, ?_, ?_, hx, hy⟩
    · rw [List.getElem?_append_right (by omega), show 2 * l.length - cs.length = 0 from by omega]; rfl
    · rw [List.getElem?_append_right (by omega), show 2 * l.length + 1 - cs.length = 1 from by omega]; rfl
/-- A name in a row of one's own, of any type. -/
def NRow (t : TypeId) (w : World) (base : Nat) (v : Value) (n : List (List Part)) : Prop :=
  ∃ us : List Value, w.ownsRow base t 1 v n.length us ∧ us.length = n.length ∧ ∀ (i : Nat) (u : Value) (r : List Part), us[i]? = some u → n[i]? = some r → Kept (fun W => Attrs W u r) (fun k => v.ownBlock = some k) w
theorem NRow.at {t : TypeId} {w : World} {base : Nat} {v : Value} {n : List (List Part)} (h : NRow t w base v n) : NameAt w v n := by
  obtain ⟨us, h1, h2, h3⟩ := h
  obtain ⟨a, cap, he, hc, hm, hx⟩ := (Vals.of_own h1).1
  rw [h2] at he hc hx
  refine ⟨a, cap, he, hc, hm, fun h0 => ?_⟩
  obtain ⟨b, o, rfl, hy⟩ := hx h0
  refine ⟨b, o, rfl, fun i r hr => ?_⟩
  have hi : i < us.length := by rw [h2]; exact (List.getElem?_eq_some_iff.1 hr).1
  exact ⟨us[i], hy i _ (List.getElem?_eq_getElem hi), (h3 i _ r (List.getElem?_eq_getElem hi) hr).now⟩
theorem NRow.old {t : TypeId} {w w' : World} {base : Nat} {v : Value} {n : List (List Part)} (h : NRow t w base v n) (f : Fr (fun _ => False) w w') : NRow t w' base v n := by
  obtain ⟨us, h1, h2, h3⟩ := h
  exact ⟨us, Go.Proofs.YtgffhiopbnkjbaaGreatDoor.ownsRow_fr h1 f (fun _ _ h => h), h2, fun i u r hu hr => (h3 i u r hu hr).old f⟩
theorem NRow.keep {t : TypeId} {w : World} {base : Nat} {v : Value} {n : List (List Part)} (h : NRow t w base v n) : ∀ k, v.ownBlock = some k → base ≤ k ∧ k < w.heap.size := by
  obtain ⟨us, h1, -⟩ := h
  exact (Vals.of_own h1).2
theorem NRow.shape {t : TypeId} {w : World} {base : Nat} {v : Value} {n : List (List Part)} (h : NRow t w base v n) : ∃ a c, v = .slice a n.length c := by
  obtain ⟨us, h1, -⟩ := h
  obtain ⟨a, m, c, rfl, rfl⟩ := own_shape h1
  exact ⟨a, c, rfl⟩
theorem NRow.nil (t : TypeId) (w : World) (base : Nat) : NRow t w base (.slice none 0 0) [] := ⟨[], ⟨rfl, .inl ⟨rfl, rfl⟩⟩, rfl, fun i u r h => by simp at h⟩
/-- A step more. -/
theorem NRow.add {P : Program} {t s : TypeId} (hu0 : P.underlying s = some (.slice t)) (hinf : Info P t (.slice none 0 0) 1 24) {w wa : World} {base : Nat} {v : Value} {n : List (List Part)} (h : NRow t w base v n) (hb : base ≤ w.heap.size) (F1 : Fr (fun _ => False) w wa) (g : Nat) (u : Value) (r : List Part) (BX : Blk wa g t #[u]) (hu1 : u.oneCell' = true) (hu : Kept (fun W => Attrs W u r) (fun k => v.ownBlock = some k) w) (hn : n.length ≤ 109951162777) :
    ∃ a c w', (Builtin.append_ #[s, s] s #[v, .slice (some ⟨g, 0, none⟩) 1 1]).run P wa = .ok (.slice a (n.length + 1) c) w' ∧ NRow t w' base (.slice a (n.length + 1) c) (n ++ [r]) ∧ Fr (fun k => v.ownBlock = some k) w w' := by
  obtain ⟨us, h1, h2, h3⟩ := h
  obtain ⟨a, c, w', hrun, h4, F2, h5⟩ := add_gen hu0 hinf rfl (by decide) (by decide) h1 hb F1 g [u] rfl BX (by simpa using hu1) hn
  refine ⟨a, c, w', hrun, ⟨us ++ [u], ?_, by simp [h2], fun i x s hx hs => ?_⟩, F2⟩
  · rw [List.length_append]
    exact h4
  · rcases Nat.lt_or_ge i us.length with hi | hi
    · rw [List.getElem?_append_left hi] at hx
      rw [List.getElem?_append_left (by omega)] at hs
      exact (h3 i x s hx hs).step F2 (fun _ _ h => h) h5
    · obtain rfl : i = us.length := by
        have := (List.getElem?_eq_some_iff.1 hx).1
        simp at this
        omega
      rw [List.getElem?_append_right (Nat.le_refl _)] at hx
      rw [List.getElem?_append_right (by omega)] at hs
      simp at hx
      simp [h2] at hs
      subst hx; subst hs
      exact hu.step F2 (fun _ _ h => h) h5
end Go.Q

namespace Go.Q
open Go
/-- A part, cut. -/
def cutPart (p : Part) : Part := ⟨p.o.take 40, p.b.take 200⟩
/-- A step, cut. -/
def cutStep (l : List Part) : List Part := (l.take 20).map cutPart
/-- A name, cut. -/
def cutName (n : List (List Part)) : List (List Part) := (n.take 70).map cutStep
theorem cutPart_few (p : Part) : (cutPart p).b.length ≤ 10000000 := by
  show (p.b.take 200).length ≤ 10000000
  rw [List.length_take]
  omega
theorem cutStep_few (l : List Part) : fewB (cutStep l) := fun p hp => by
  obtain ⟨q, -, rfl⟩ := List.mem_map.1 hp
  exact cutPart_few q
theorem cutName_few (n : List (List Part)) : ∀ r ∈ cutName n, fewB r := fun r hr => by
  obtain ⟨q, -, rfl⟩ := List.mem_map.1 hr
  exact cutStep_few q
theorem cutStep_len (l : List Part) : (cutStep l).length ≤ 20 := by
  unfold cutStep
  rw [List.length_map, List.length_take]
  omega
theorem cutName_len (n : List (List Part)) : (cutName n).length ≤ 70 := by
  unfold cutName
  rw [List.length_map, List.length_take]
  omega
theorem nameOk_take {n : List (List Part)} (h : nameOk n = true) (k : Nat) : nameOk (n.take k) = true := by
  obtain ⟨h1, h2⟩ := name_rdns h
  unfold nameOk
  rw [Bool.and_eq_true]
  refine ⟨decide_eq_true (by rw [List.length_take]; omega), List.all_eq_true.2 fun r hr => h2 r (List.mem_of_mem_take hr)⟩
theorem nameSame_comm (n m : List (List Part)) : nameSameS n m = nameSameS m n := by
  unfold nameSameS
  rw [← Bool.and_assoc, ← Bool.and_assoc, Bool.and_comm (nameOk n)]
  congr 1
  exact decide_eq_decide.2 ⟨Eq.symm, Eq.symm⟩
theorem nameSame_self (n : List (List Part)) : nameSameS n n = nameOk n := by
  unfold nameSameS
  rw [decide_eq_true rfl, Bool.and_true, Bool.and_self]
/-- Does a name begin so? -/
def underS (n m : List (List Part)) : Bool := nameOk n && (decide (m.length ≤ n.length) && nameSameS (n.take m.length) m)
theorem under_front {n : List (List Part)} {k : Nat} (hk : k ≤ n.length) : underS n (n.take k) = nameOk n := by
  have hl : (n.take k).length = k := by rw [List.length_take]; omega
  unfold underS
  rw [hl, nameSame_self]
  cases h : nameOk n with
  | false => rfl
  | true =>
    rw [nameOk_take h k, decide_eq_true hk]
    rfl
end Go.Q

namespace Go.Q
open Go Go.RowKit
theorem Ints.cut {w : World} {a : Option Addr} {c : Nat} {l : List Int} (h : Ints w (.slice a l.length c) l) (N m : Nat) (hm : m = min l.length N) : Ints w (.slice a m c) (l.take N) := by
  obtain ⟨a0, c0, he, h1, h2, -⟩ := Ints.form h
  simp only [Value.slice.injEq] at he
  obtain ⟨rfl, -, rfl⟩ := he
  have := Vals.sub h 0 m (Nat.zero_le _) (by omega) a c (fun _ b o e => by simpa using e) (by omega) h2
  simp only [Nat.sub_zero, List.drop_zero] at this
  have e : l.take N = l.take m := by
    rw [hm, ← List.take_take, List.take_of_length_le (l := l.take N) (by rw [List.length_take]; omega)]
  unfold Ints intCells
  rw [e, List.map_take]
  exact this
theorem Vals.cut {w : World} {a : Option Addr} {c : Nat} {l : List UInt8} (h : Bytes w (.slice a l.length c) l) (N m : Nat) (hm : m = min l.length N) : Bytes w (.slice a m c) (l.take N) := by
  obtain ⟨a0, c0, he, h1, h2, -⟩ := Vals.form h
  simp only [Value.slice.injEq] at he
  obtain ⟨rfl, -, rfl⟩ := he
  have := Vals.sub h 0 m (Nat.zero_le _) (by omega) a c (fun _ b o e => by simpa using e) (by omega) h2
  simp only [Nat.sub_zero, List.drop_zero] at this
  have e : l.take N = l.take m := by
    rw [hm, ← List.take_take, List.take_of_length_le (l := l.take N) (by rw [List.length_take]; omega)]
  unfold Bytes Lib.byteCells
  rw [e, List.map_take]
  exact this
theorem map_take_succ {α β : Type} (f : α → β) {l : List α} {j : Nat} {x : α} (h : l[j]? = some x) : (l.take (j + 1)).map f = (l.take j).map f ++ [f x] := by
  rw [List.take_add_one, h]
  simp
end Go.Q
namespace Go.Proofs.YtgffhiopbnkjbaaGreatDoor
open Go Go.RowKit Go.Q
set_option linter.unusedSimpArgs false

set_option maxRecDepth 20000 in
set_option maxHeartbeats 4000000 in
theorem lawStep_any (v : Value) (l : List Part) (w0 w : World) (h : Attrs w0 v l) (F0 : Fr (fun _ => False) w0 w) :
    Calls Tryz.prog 53 #[v] w fun e w' => (∃ a c, e = .returned (.slice a (cutStep l).length c) ∧ ARow 39 w0 w' w.heap.size (.slice a (cutStep l).length c) (cutStep l)) ∧ Fr (fun _ => False) w w' := by
  have H := Lib.hid h
  have HF0 := Lib.hid F0
  obtain ⟨a, cap, rfl, -⟩ := h
  have hcs : cutStep l = (l.take 20).map cutPart := rfl
  have HCS := Lib.hid hcs
  clear hcs F0
  go_enter Tryz.func53, Tryz.ntmps53
  go_wp2_with fail
  go_loopg [3, 4] l.length (fun g u i wr => ∃ (j : Nat) (au : Option Addr) (cu : Nat), g = l.length - j ∧ j ≤ l.length ∧ j ≤ 20 ∧ u = .slice au j cu ∧ i = .int .i64 j ∧ ARow 39 w0 wr w.heap.size (.slice au j cu) ((l.take j).map cutPart) ∧ Fr (fun _ => False) w wr)
  case atStart => exact ⟨0, none, 0, rfl, Nat.zero_le _, by omega, rfl, rfl, ARow.nil _ _ _ _, Fr.refl _⟩
  case round =>
    obtain ⟨j, au, cu, hg, hj, hj20, rfl, rfl, hrow, F⟩ := hrel
    have HG := Lib.hid hg
    have HRW := Lib.hid hrow
    have HF := Lib.hid F
    have hml : ((l.take j).map cutPart).length = j := by rw [List.length_map, List.length_take]; omega
    have HML := Lib.hid hml
    clear hg hrow hml
    by_cases hjl : j < l.length
    · have q1 : (j : Int) < (l.length : Int) := by omega
      by_cases h20 : j < 20
      · have q2 : (j : Int) < 20 := by omega
        obtain ⟨a0, cap0, he, _, _, hx⟩ := H.out
        simp only [Value.slice.injEq, true_and] at he
        obtain ⟨rfl, rfl⟩ := he
        obtain ⟨b, off, rfl, hy⟩ := hx (by omega)
        obtain ⟨p, hp⟩ : ∃ p, l[j]? = some p := ⟨_, List.getElem?_eq_getElem hjl⟩
        obtain ⟨x, y, e1, e2, hpx, hpy⟩ := hy j p hp
        obtain ⟨ax, cx, rfl, hcx, hmx, -⟩ := Ints.form hpx
        obtain ⟨ay, cy, rfl, hcy, hmy, -⟩ := Vals.form hpy
        have e1' : wr.cell? ⟨b, off + j * 2, none⟩ = some (.slice ax p.o.length cx) := by rw [Nat.mul_comm]; exact (HF0.out.trans F).cell e1 (fun h => h)
        have e2' : wr.cell? ⟨b, off + j * 2 + 1, none⟩ = some (.slice ay p.b.length cy) := by rw [Nat.mul_comm]; exact (HF0.out.trans F).cell e2 (fun h => h)
        obtain ⟨mo, hmo⟩ : ∃ m : Nat, m = min p.o.length 40 := ⟨_, rfl⟩
        obtain ⟨mb, hmb⟩ : ∃ m : Nat, m = min p.b.length 200 := ⟨_, rfl⟩
        have HPX := Lib.hid (Ints.cut hpx 40 mo hmo)
        have HPY := Lib.hid (Vals.cut hpy 200 mb hmb)
        have HMT := Lib.hid (map_take_succ cutPart hp)
        unfold maxLen at hmx hmy
        have c1 : min (p.o.length : Int) 40 = (mo : Int) := by omega
        have c2 : min (p.b.length : Int) 200 = (mb : Int) := by omega
        have c3 : (mo : Int) ≤ (cx : Int) := by omega
        have c4 : (mb : Int) ≤ (cy : Int) := by omega
        have c5 : (0 : Int) ≤ (mo : Int) := by omega
        have c6 : (0 : Int) ≤ (mb : Int) := by omega
        have r1 : (0 : Int) ≤ (j : Int) := by omega
        clear hx hy hp e1 e2 hpx hpy hmo hmb
        go_upto_region 6 with fail
        obtain ⟨z, hz⟩ : ∃ z, z = wr.heap.size := ⟨_, rfl⟩
        have BA := Blk.new wr 63 #[.slice ax p.o.length cx, .slice ay p.b.length cy]
        have F1 : Fr (fun _ => False) wr (wr.alloc (.cells #[.slice ax p.o.length cx, .slice ay p.b.length cy] 63)) := (Fr.refl wr).alloc _
        rw [← hz] at BA ⊢
        have HZ := Lib.hid hz
        clear hz e1' e2'
        generalize (wr.alloc (.cells #[.slice ax p.o.length cx, .slice ay p.b.length cy] 63)) = w1 at *
        obtain ⟨wa, hwa⟩ : ∃ wa, wa = w1.drew.alloc (.cells #[.slice ax mo cx, .slice ay mb cy] 39) := ⟨_, rfl⟩
        have Fa : Fr (fun _ => False) wr wa := by rw [hwa]; exact F1.drew.alloc _
        have BAa : Blk wa z 63 #[.slice ax p.o.length cx, .slice ay p.b.length cy] := by rw [hwa]; exact BA.drew.alloc _
        have BX : Blk wa w1.heap.size 39 #[.slice ax mo cx, .slice ay mb cy] := by rw [hwa]; exact Blk.new w1.drew _ _
        obtain ⟨a7, c7, w7, hrun, hrow7, F7⟩ := ARow.add Tryz.underlying41 info39 (HRW.out.fr Fa (fun _ _ h => h)) (HF.out.trans Fa).size (Fr.refl wa) w1.heap.size BX (cutPart p) HPX.out HPY.out (by rw [HML.out]; omega)
        have HG7 := Lib.hid ((HF.out.trans Fa).trans' F7 (fun i hi e => absurd hi (by have := (HRW.out.keep i e).1; omega)))
        have BA7 := BAa.fr F7 (fun e => by have := (HRW.out.keep z e).2; have := HZ.out; omega)
        rw [HML.out] at hrun hrow7
        have HRUN := Lib.hid hrun
        have HROW7 := Lib.hid hrow7
        have HC0 := Lib.hid BA.drew.cell
        have HCa := Lib.hid BAa.cell
        have HC7 := Lib.hid BA7.cell
        rw [hwa] at HCa HRUN
        clear hrun hrow7 F7 BA7 BAa BX Fa F1 BA hwa
        go_region_held3 (fun w' => ∀ j, w'.cell? ⟨z, j, none⟩ = (#[.slice ax p.o.length cx, .slice ay p.b.length cy] : Array Value)[j]?) (first | exact HC0.out | exact HCa.out | exact HC7.out) (first
          | (refine step_append_run (by rfl) (.tmp 20) (.tmp 36) 41 (by rfl) _ w7 (by exact HRUN.out) ?_)
          | fail)
        all_goals
          go_wp2_with fail
          go_roundg (l.length - (j + 1))
          case measure => rw [HG.out]; omega
          case rel => exact ⟨j + 1, a7, c7, rfl, by omega, by omega, rfl, by go_num, by rw [HMT.out]; exact HROW7.out, HG7.out⟩
      · obtain rfl : j = 20 := by omega
        have q2 : ¬ ((20 : Nat) : Int) < 20 := by omega
        have hres : (l.take 20).map cutPart = cutStep l := HCS.out.symm
        have hrow := HRW.out
        rw [hres] at hrow
        have hlen : 20 = (cutStep l).length := by rw [← hres, HML.out]
        have HL := Lib.hid hlen
        have HROW := Lib.hid hrow
        clear hres hrow hlen
        go_wp2_with fail
        go_ret
        exact ⟨⟨au, cu, by rw [← HL.out]; rfl, by rw [← HL.out]; exact HROW.out⟩, F⟩
    · obtain rfl : j = l.length := by omega
      have hres : (l.take l.length).map cutPart = cutStep l := by rw [HCS.out, List.take_of_length_le hj20, List.take_length]
      have hrow := HRW.out
      rw [hres] at hrow
      have hlen : l.length = (cutStep l).length := by rw [← hres, HML.out]
      have HL := Lib.hid hlen
      have HROW := Lib.hid hrow
      clear hres hrow hlen
      go_wp2_with fail
      go_ret
      exact ⟨⟨au, cu, by rw [← HL.out]; rfl, by rw [← HL.out]; exact HROW.out⟩, F⟩

set_option maxRecDepth 20000 in
set_option maxHeartbeats 4000000 in
theorem lawTo_any (v : Value) (n : List (List Part)) (w : World) (h : NameAt w v n) :
    Calls Tryz.prog 18 #[v] w fun e w' => (∃ a c, e = .returned (.slice a (cutName n).length c) ∧ NRow 41 w' w.heap.size (.slice a (cutName n).length c) (cutName n)) ∧ Fr (fun _ => False) w w' := by
  have H := Lib.hid h
  obtain ⟨a, cap, rfl, -⟩ := h
  have hcs : cutName n = (n.take 70).map cutStep := rfl
  have HCS := Lib.hid hcs
  clear hcs
  go_enter Tryz.func18, Tryz.ntmps18
  go_wp2_with fail
  go_loopg [3, 4] n.length (fun g u i wr => ∃ (j : Nat) (au : Option Addr) (cu : Nat), g = n.length - j ∧ j ≤ n.length ∧ j ≤ 70 ∧ u = .slice au j cu ∧ i = .int .i64 j ∧ NRow 41 wr w.heap.size (.slice au j cu) ((n.take j).map cutStep) ∧ Fr (fun _ => False) w wr)
  case atStart => exact ⟨0, none, 0, rfl, Nat.zero_le _, by omega, rfl, rfl, NRow.nil _ _ _, Fr.refl _⟩
  case round =>
    obtain ⟨j, au, cu, hg, hj, hj70, rfl, rfl, hrow, F⟩ := hrel
    have HG := Lib.hid hg
    have HRW := Lib.hid hrow
    have HF := Lib.hid F
    have hml : ((n.take j).map cutStep).length = j := by rw [List.length_map, List.length_take]; omega
    have HML := Lib.hid hml
    clear hg hrow hml
    by_cases hjl : j < n.length
    · have q1 : (j : Int) < (n.length : Int) := by omega
      by_cases h70 : j < 70
      · have q2 : (j : Int) < 70 := by omega
        obtain ⟨a0, cap0, he, _, _, hx⟩ := H.out
        simp only [Value.slice.injEq, true_and] at he
        obtain ⟨rfl, rfl⟩ := he
        obtain ⟨b, off, rfl, hy⟩ := hx (by omega)
        obtain ⟨r, hr⟩ : ∃ r, n[j]? = some r := ⟨_, List.getElem?_eq_getElem hjl⟩
        obtain ⟨x, e0, hA⟩ := hy j r hr
        have e1 := F.cell e0 (fun h => h)
        have HS := Lib.hid (lawStep_any x r w wr hA F)
        have HMT := Lib.hid (map_take_succ cutStep hr)
        have r1 : (0 : Int) ≤ (j : Int) := by omega
        clear hx hy hr e0 hA
        obtain ⟨wo, hwo⟩ : ∃ wo : World, wo = wr := ⟨_, rfl⟩
        obtain rfl := hwo
        go_wp2_with fail
        refine HS.out.mono ?_
        rintro e w2 ⟨⟨a2, c2, rfl, hrow2⟩, F2⟩
        have hkp := HRW.out.keep
        have hk2 : Kept (fun W => Attrs W (.slice a2 (cutStep r).length c2) (cutStep r)) (fun k => (Value.slice au j cu).ownBlock = some k) w2 := hrow2.kept (HF.out.trans F2) _ (fun k e => hkp k e)
        obtain ⟨a7, c7, w7, hrun, hrow7, F7⟩ := NRow.add Tryz.underlying33 info41 (HRW.out.old F2) (HF.out.trans F2).size ((Fr.refl w2).alloc (.cells #[.slice a2 (cutStep r).length c2] 41)) w2.heap.size _ (cutStep r) (Blk.new w2 41 #[.slice a2 (cutStep r).length c2]) rfl hk2 (by rw [HML.out]; omega)
        have HG7 := Lib.hid ((HF.out.trans F2).trans' F7 (fun i hi e => absurd hi (by have := (hkp i e).1; omega)))
        rw [HML.out] at hrun hrow7
        have HRUN := Lib.hid hrun
        have HROW7 := Lib.hid hrow7
        clear hrun hrow7 F7 hk2 hkp hrow2 F2 e1 HS
        go_wp2_with (at_builtin; refine wpList_append_run (by rfl) (.tmp 15) (.tmp 21) 33 (by rfl) _ w7 (by exact HRUN.out) ?_)
        go_roundg (n.length - (j + 1))
        case measure => rw [HG.out]; omega
        case rel => exact ⟨j + 1, a7, c7, rfl, by omega, by omega, rfl, by go_num, by rw [HMT.out]; exact HROW7.out, HG7.out⟩
      · obtain rfl : j = 70 := by omega
        have q2 : ¬ ((70 : Nat) : Int) < 70 := by omega
        have hres : (n.take 70).map cutStep = cutName n := HCS.out.symm
        have hrow := HRW.out
        rw [hres] at hrow
        have hlen : 70 = (cutName n).length := by rw [← hres, HML.out]
        have HL := Lib.hid hlen
        have HROW := Lib.hid hrow
        clear hres hrow hlen
        go_wp2_with fail
        go_ret
        exact ⟨⟨au, cu, by rw [← HL.out]; rfl, by rw [← HL.out]; exact HROW.out⟩, F⟩
    · obtain rfl : j = n.length := by omega
      have hres : (n.take n.length).map cutStep = cutName n := by rw [HCS.out, List.take_of_length_le hj70, List.take_length]
      have hrow := HRW.out
      rw [hres] at hrow
      have hlen : n.length = (cutName n).length := by rw [← hres, HML.out]
      have HL := Lib.hid hlen
      have HROW := Lib.hid hrow
      clear hres hrow hlen
      go_wp2_with fail
      go_ret
      exact ⟨⟨au, cu, by rw [← HL.out]; rfl, by rw [← HL.out]; exact HROW.out⟩, F⟩

theorem info63 : (Tryz.prog.info? 63).map (fun i => (i.zero, i.size, i.bytes)) = some (some (.agg #[.slice none 0 0, .slice none 0 0]), 2, 48) := by kernel_rfl
theorem info60 : (Tryz.prog.info? 60).map (fun i => (i.zero, i.size, i.bytes)) = some (some (.slice none 0 0), 1, 24) := by kernel_rfl

set_option maxRecDepth 20000 in
set_option maxHeartbeats 8000000 in
theorem lawOf_any (v : Value) (n : List (List Part)) (w : World) (h : NameAt w v n) (hn : n.length ≤ 1000000) (hr0 : ∀ r ∈ n, r.length ≤ 1000000) :
    Calls Tryz.prog 19 #[v] w fun e w' => (∃ a c, e = .returned (.slice a n.length c) ∧ NRow 60 w' w.heap.size (.slice a n.length c) n) ∧ Fr (fun _ => False) w w' := by
  have H := Lib.hid h
  have HR0 := Lib.hid hr0
  obtain ⟨a, cap, rfl, -⟩ := h
  clear hr0
  go_enter Tryz.func19, Tryz.ntmps19
  go_wp2_with fail
  go_loopg [3, 4] n.length (fun g u i wr => ∃ (j : Nat) (au : Option Addr) (cu : Nat), g = n.length - j ∧ j ≤ n.length ∧ u = .slice au j cu ∧ i = .int .i64 j ∧ NRow 60 wr w.heap.size (.slice au j cu) (n.take j) ∧ Fr (fun _ => False) w wr)
  case atStart => exact ⟨0, none, 0, rfl, Nat.zero_le _, rfl, rfl, NRow.nil _ _ _, Fr.refl _⟩
  case round =>
    obtain ⟨j, au, cu, hg, hj, rfl, rfl, hrow, F⟩ := hrel
    have HG := Lib.hid hg
    have HRW := Lib.hid hrow
    have HF := Lib.hid F
    have hml : (n.take j).length = j := by rw [List.length_take]; omega
    have HML := Lib.hid hml
    clear hg hrow hml
    by_cases hjl : j < n.length
    · have q1 : (j : Int) < (n.length : Int) := by omega
      obtain ⟨a0, cap0, he, _, _, hx⟩ := H.out
      simp only [Value.slice.injEq, true_and] at he
      obtain ⟨rfl, rfl⟩ := he
      obtain ⟨b, off, rfl, hy⟩ := hx (by omega)
      obtain ⟨r, hr⟩ : ∃ r, n[j]? = some r := ⟨_, List.getElem?_eq_getElem hjl⟩
      obtain ⟨x, e0, hA⟩ := hy j r hr
      have hrl := HR0.out r (List.mem_of_getElem? hr)
      have HE0 := Lib.hid e0
      have HMT := Lib.hid (show n.take (j + 1) = n.take j ++ [r] from by rw [List.take_add_one, hr]; rfl)
      have HA := Lib.hid hA
      obtain ⟨ar, cr, rfl, -⟩ := hA
      have r1 : (0 : Int) ≤ (j : Int) := by omega
      have r2 : (j : Int) < (n.length : Int) := by omega
      clear hx hy hr e0 F
      obtain ⟨wo, hwo⟩ : ∃ wo : World, wo = wr := ⟨_, rfl⟩
      obtain rfl := hwo
      go_wp2_with fail
      go_loopg [5, 6] r.length (fun g u k wr => ∃ (i : Nat) (a2 : Option Addr) (c2 : Nat), g = r.length - i ∧ i ≤ r.length ∧ u = .slice a2 i c2 ∧ k = .int .i64 i ∧ ARow 63 w wr wo.heap.size (.slice a2 i c2) (r.take i) ∧ Fr (fun _ => False) wo wr)
      case atStart => exact ⟨0, none, 0, rfl, Nat.zero_le _, rfl, rfl, ARow.nil _ _ _ _, Fr.refl _⟩
      case round =>
        obtain ⟨i, a2, c2, hg, hi, rfl, rfl, hrow2, F2⟩ := hrel
        have HG2 := Lib.hid hg
        have HRW2 := Lib.hid hrow2
        have HF2 := Lib.hid F2
        have hml : (r.take i).length = i := by rw [List.length_take]; omega
        have HML2 := Lib.hid hml
        have e0 := (HF.out.trans F2).cell HE0.out (fun h => h)
        clear hg hrow2 hml
        by_cases hil : i < r.length
        · have q2 : (i : Int) < (r.length : Int) := by omega
          obtain ⟨a1, cap1, he, _, _, hx⟩ := HA.out
          simp only [Value.slice.injEq, true_and] at he
          obtain ⟨rfl, rfl⟩ := he
          obtain ⟨b1, o1, rfl, hy⟩ := hx (by omega)
          obtain ⟨p, hp⟩ : ∃ p, r[i]? = some p := ⟨_, List.getElem?_eq_getElem hil⟩
          obtain ⟨x, y, e1, e2, hpx, hpy⟩ := hy i p hp
          obtain ⟨ax, cx, rfl, -⟩ := Ints.form hpx
          obtain ⟨ay, cy, rfl, -⟩ := Vals.form hpy
          have e1' : w.cell? ⟨b1, o1 + i * 2, none⟩ = some (.slice ax p.o.length cx) := by rw [Nat.mul_comm]; exact e1
          have e2' : w.cell? ⟨b1, o1 + i * 2 + 1, none⟩ = some (.slice ay p.b.length cy) := by rw [Nat.mul_comm]; exact e2
          have HMT2 := Lib.hid (show r.take (i + 1) = r.take i ++ [p] from by rw [List.take_add_one, hp]; rfl)
          have s1 : (0 : Int) ≤ (i : Int) := by omega
          obtain ⟨wa, hwa⟩ : ∃ wa, wa = wr.drew.alloc (.cells #[.slice ax p.o.length cx, .slice ay p.b.length cy] 63) := ⟨_, rfl⟩
          have Fa : Fr (fun _ => False) wr wa := by rw [hwa]; exact (Fr.refl wr).drew.alloc _
          have BX : Blk wa wr.heap.size 63 #[.slice ax p.o.length cx, .slice ay p.b.length cy] := by rw [hwa]; exact Blk.new wr.drew _ _
          obtain ⟨a7, c7, w7, hrun, hrow7, F7⟩ := ARow.add Tryz.underlying60 info63 (HRW2.out.fr Fa (fun _ _ h => h)) (HF2.out.trans Fa).size (Fr.refl wa) wr.heap.size BX p hpx hpy (by rw [HML2.out]; omega)
          have G7 : Fr (fun _ => False) wo w7 := (HF2.out.trans Fa).trans' F7 (fun i hi e => absurd hi (by have := (HRW2.out.keep i e).1; omega))
          have HG7 := Lib.hid G7
          rw [HML2.out] at hrun hrow7
          have HRUN := Lib.hid hrun
          have HROW7 := Lib.hid hrow7
          have hS : ∀ w', Fr (fun _ => False) w w' → w'.cell? ⟨b, off + j, none⟩ = some (.slice (some ⟨b1, o1, none⟩) r.length cr) ∧ w'.cell? ⟨b1, o1 + i * 2, none⟩ = some (.slice ax p.o.length cx) ∧ w'.cell? ⟨b1, o1 + i * 2 + 1, none⟩ = some (.slice ay p.b.length cy) := fun w' f => ⟨f.cell HE0.out (fun h => h), f.cell e1' (fun h => h), f.cell e2' (fun h => h)⟩
          have HC0 := Lib.hid (hS wr.drew ((HF.out.trans HF2.out).drew))
          have HCa := Lib.hid (hS wa ((HF.out.trans HF2.out).trans Fa))
          have HC7 := Lib.hid (hS w7 (HF.out.trans G7))
          rw [hwa] at HCa HRUN
          clear hrun hrow7 F7 G7 BX Fa hwa hx hy hp e1 e2 e1' e2' hpx hpy hS
          go_upto_region 9 with fail
          go_region_held3 (fun w' => w'.cell? ⟨b, off + j, none⟩ = some (.slice (some ⟨b1, o1, none⟩) r.length cr) ∧ w'.cell? ⟨b1, o1 + i * 2, none⟩ = some (.slice ax p.o.length cx) ∧ w'.cell? ⟨b1, o1 + i * 2 + 1, none⟩ = some (.slice ay p.b.length cy)) (first | exact HC0.out | exact HCa.out | exact HC7.out) (first
            | (refine step_append_run (by rfl) (.tmp 22) (.tmp 40) 60 (by rfl) _ w7 (by exact HRUN.out) ?_)
            | fail)
          all_goals
            go_wp2_with fail
            go_roundg (r.length - (i + 1))
            case measure => rw [HG2.out]; omega
            case rel => exact ⟨i + 1, a7, c7, rfl, by omega, rfl, by go_num, by rw [HMT2.out]; exact HROW7.out, HG7.out⟩
        · obtain rfl : i = r.length := by omega
          have hrow2 := HRW2.out
          rw [List.take_length] at hrow2
          have hkp := HRW.out.keep
          have hk2 : Kept (fun W => Attrs W (.slice a2 r.length c2) r) (fun k => (Value.slice au j cu).ownBlock = some k) wr := hrow2.kept (HF.out.trans HF2.out) _ (fun k e => hkp k e)
          obtain ⟨a7, c7, w7, hrun, hrow7, F7⟩ := NRow.add Tryz.underlying46 info60 (HRW.out.old HF2.out) (HF.out.trans HF2.out).size ((Fr.refl wr).alloc (.cells #[.slice a2 r.length c2] 60)) wr.heap.size _ r (Blk.new wr 60 #[.slice a2 r.length c2]) rfl hk2 (by rw [HML.out]; omega)
          have HG7 := Lib.hid ((HF.out.trans HF2.out).trans' F7 (fun i hi e => absurd hi (by have := (hkp i e).1; omega)))
          rw [HML.out] at hrun hrow7
          have HRUN := Lib.hid hrun
          have HROW7 := Lib.hid hrow7
          clear hrun hrow7 F7 hk2 hkp hrow2
          go_wp2_with (at_builtin; refine wpList_append_run (by rfl) (.tmp 42) (.tmp 44) 46 (by rfl) _ w7 (by exact HRUN.out) ?_)
          go_roundg (n.length - (j + 1))
          case measure => rw [HG.out]; omega
          case rel => exact ⟨j + 1, a7, c7, rfl, by omega, rfl, by go_num, by rw [HMT.out]; exact HROW7.out, HG7.out⟩
    · obtain rfl : j = n.length := by omega
      have hrow := HRW.out
      rw [List.take_length] at hrow
      have HROW := Lib.hid hrow
      clear hrow
      go_wp2_with fail
      go_ret
      exact ⟨⟨au, cu, rfl, HROW.out⟩, F⟩
end Go.Proofs.YtgffhiopbnkjbaaGreatDoor

namespace Go.Proofs.YtgffhiopbnkjbaaGreatDoor
open Go Go.RowKit Go.Q
set_option linter.unusedSimpArgs false

/-- What the reference's Read of an oid gives. -/
def rOidOut (w w' : World) (p : Nat) (r : Except Int (List Int × Nat)) (e : Ending) : Prop :=
  match r with
  | .error x => e = .returned (.tuple #[.slice none 0 0, .int .i64 p, .int .i64 x])
  | .ok (o, k) => ∃ a c, e = .returned (.tuple #[.slice a o.length c, .int .i64 ((p + k : Nat) : Int), .int .i64 0]) ∧ w'.ownsRow w.heap.size 3 1 (.slice a o.length c) o.length (intCells o)

set_option maxRecDepth 20000 in
set_option maxHeartbeats 2000000 in
theorem r04Read_any (v : Value) (l : List UInt8) (p : Nat) (w : World) (h : Bytes w v l) (hp : p ≤ l.length) (hlm : l.length ≤ 1099511627776) :
    Calls Tryz.prog 67 #[v, .int .i64 p] w fun e w' => rOidOut w w' p (oidReadS (l.drop p)) e ∧ Fr (fun _ => False) w w' := by
  have HR := Lib.hid (show oidReadS (l.drop p) = match openS (tagOf 6) (l.drop p) with | .error e => .error e | .ok (x, k) => match oidParseS x with | .error e => .error e | .ok o => .ok (o, k) from rfl)
  have H := Lib.hid h
  clear h
  go_enter Tryz.func67, Tryz.ntmps67
  go_wp2_with fail
  refine (r02Of_any 6 _).mono ?_
  rintro e w1 ⟨rfl, F1⟩
  have HO := Lib.hid (r02Open_any v l p (tagOf 6) w1 (H.out.old F1) hp hlm)
  have HF1 := Lib.hid F1
  clear F1
  go_wp2_with fail
  refine HO.out.mono ?_
  rintro e w2 ⟨hout, F2⟩
  have HF2 := Lib.hid (HF1.out.trans F2)
  clear HO F2 HF1
  unfold rOpenOut at hout
  cases ho : openS (tagOf 6) (l.drop p) with
  | error x =>
    have hx := openS_nz ho
    have hx1 : (x == 0) = false := beq_eq_false_iff_ne.2 hx
    have hx2 : (x != 0) = true := by simpa using hx
    have hr := HR.out
    rw [ho] at hout hr
    subst hout
    have HR2 := Lib.hid hr
    clear ho hr HR hx
    go_wp2_with fail
    refine bodyPost_ret (v := .tuple #[.slice none 0 0, .int .i64 p, .int .i64 x]) (by simp [results, Tryz.results67, go_sem]) rfl ⟨?_, HF2.out⟩
    rw [HR2.out]
    rfl
  | ok yk =>
    obtain ⟨y, k⟩ := yk
    have hr := HR.out
    rw [ho] at hout hr
    obtain ⟨A, c, rfl, hby⟩ := hout
    have hyl : y.length ≤ 16777216 := (open_back ho tag6).2.1
    have HR2 := Lib.hid hr
    have HP := Lib.hid (r04Parse_any _ y w2 (hby _ (H.out.old HF2.out)) (by omega))
    obtain ⟨s, hs⟩ : ∃ s, s = p + k := ⟨_, rfl⟩
    rw [← hs]
    have HS := Lib.hid hs
    clear ho hr HR hby hs
    go_wp2_with fail
    refine HP.out.mono ?_
    rintro e w3 ⟨hout, F3⟩
    have hs2 := HF2.out.size
    have HF3 := Lib.hid (HF2.out.trans F3)
    clear F3 HF2 HP
    unfold oidParseOut at hout
    cases ho : oidParseS y with
    | error x =>
      have hx := oidParse_nz ho
      have hx1 : (x == 0) = false := beq_eq_false_iff_ne.2 hx
      have hx2 : (x != 0) = true := by simpa using hx
      have hr := HR2.out
      rw [ho] at hout
      simp only [ho] at hr
      subst hout
      have HR3 := Lib.hid hr
      clear ho hr hx HR2
      go_wp2_with fail
      refine bodyPost_ret (v := .tuple #[.slice none 0 0, .int .i64 p, .int .i64 x]) (by simp [results, Tryz.results67, go_sem]) rfl ⟨?_, HF3.out⟩
      rw [HR3.out]
      rfl
    | ok o =>
      have hr := HR2.out
      rw [ho] at hout
      simp only [ho] at hr
      obtain ⟨ao, co, rfl, hown⟩ := hout
      have HR3 := Lib.hid hr
      have HO := Lib.hid (own_le hown hs2)
      clear ho hr hown HR2
      go_wp2_with fail
      refine bodyPost_ret (v := .tuple #[.slice ao o.length co, .int .i64 s, .int .i64 0]) (by simp [results, Tryz.results67, go_sem]) rfl ⟨?_, HF3.out⟩
      rw [HR3.out]
      exact ⟨ao, co, by rw [HS.out], HO.out⟩
end Go.Proofs.YtgffhiopbnkjbaaGreatDoor
