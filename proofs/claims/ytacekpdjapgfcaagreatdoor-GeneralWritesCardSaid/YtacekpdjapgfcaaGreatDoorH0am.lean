/-
  Merged by program: XNSort XNSheet XNSheet2 XNSheet3 XNSheet4 XNWrite.
-/
import Derived.Test.YtacekpdjapgfcaaGreatDoorH0af
import Derived.Test.YtacekpdjapgfcaaGreatDoorH0al
import Derived.Deep.CutRange
import Derived.Deep.Cut
import Derived.Test.YtacekpdjapgfcaaGreatDoorH0ai
import Derived.Test.YtacekpdjapgfcaaGreatDoorH0ak
namespace Go.Q
open Go Go.RowKit
theorem cmpS_swap : ∀ a b : List UInt8, cmpS a b = - cmpS b a
  | [], [] => rfl
  | [], _ :: _ => rfl
  | _ :: _, [] => rfl
  | x :: a, y :: b => by
    simp only [cmpS]
    by_cases h : x = y
    · rw [if_pos h, if_pos h.symm]
      exact cmpS_swap a b
    · rw [if_neg h, if_neg (fun e : y = x => h e.symm)]
      have hne : x.toNat ≠ y.toNat := fun e => h (UInt8.toNat_inj.1 e)
      by_cases h1 : x.toNat < y.toNat
      · rw [if_pos h1, if_neg (by omega)]
      · rw [if_neg h1, if_pos (by omega)]
        rfl
def Upward (ls : List (List UInt8)) : Prop := ∀ (j : Nat) (x y : List UInt8), ls[j]? = some x → ls[j + 1]? = some y → 0 ≤ cmpS y x
theorem steps_in {p : Part} {t : List Part} {last : Option (List UInt8)} {ws : List (List UInt8)} (h : stepsS last (p :: t) = some ws) : ∃ x ws', attrS p.o p.b = some x ∧ stepsS (some x) t = some ws' ∧ ws = x :: ws' ∧ ∀ y, last = some y → cmpS y x < 0 := by
  simp only [stepsS] at h
  cases hx : attrS p.o p.b with
  | none => rw [hx] at h; cases h
  | some x =>
    rw [hx] at h
    simp only at h
    have key : (stepsS (some x) t).map (x :: ·) = some ws ∧ ∀ y, last = some y → cmpS y x < 0 := by
      cases last with
      | none =>
        rw [if_neg (by simp)] at h
        exact ⟨h, fun y e => by cases e⟩
      | some y =>
        by_cases hlt : 0 ≤ cmpS y x
        · rw [if_pos (by simpa using hlt)] at h; cases h
        · rw [if_neg (by simpa using hlt)] at h
          exact ⟨h, fun z e => by cases e; omega⟩
    obtain ⟨h, hlt⟩ := key
    cases hs : stepsS (some x) t with
    | none => rw [hs] at h; cases h
    | some ws' =>
      rw [hs] at h
      simp only [Option.map_some, Option.some.injEq] at h
      exact ⟨x, ws', rfl, hs, h.symm, hlt⟩
theorem steps_up : ∀ (l : List Part) (last : Option (List UInt8)) (ws : List (List UInt8)), stepsS last l = some ws → (∀ y x, last = some y → ws[0]? = some x → cmpS y x < 0) ∧ Upward ws ∧ ws.length = l.length
  | [], last, ws, h => by
    simp only [stepsS, Option.some.injEq] at h
    subst h
    exact ⟨fun _ _ _ h => by simp at h, fun _ _ _ h => by simp at h, rfl⟩
  | p :: t, last, ws, h => by
    obtain ⟨x, ws', -, hs, rfl, hlt⟩ := steps_in h
    obtain ⟨h1, h2, h3⟩ := steps_up t (some x) ws' hs
    refine ⟨fun y z hl hz => ?_, fun j a b ha hb => ?_, by rw [List.length_cons, List.length_cons, h3]⟩
    · simp only [List.getElem?_cons_zero, Option.some.injEq] at hz
      subst hz
      exact hlt y hl
    · cases j with
      | zero =>
        simp only [List.getElem?_cons_zero, Option.some.injEq, Nat.zero_add, List.getElem?_cons_succ] at ha hb
        subst ha
        have := h1 x b rfl hb
        have := cmpS_swap b x
        omega
      | succ j =>
        simp only [List.getElem?_cons_succ] at ha hb
        exact h2 j a b ha hb
theorem rdn_up {l : List Part} {ws : List (List UInt8)} (h : rdnS l = some ws) : Upward ws ∧ ws.length ≤ 16 := by
  unfold rdnS at h
  split at h
  · cases h
  rename_i hn
  obtain ⟨-, h2, h3⟩ := steps_up l none ws h
  exact ⟨h2, by omega⟩
def rdnWhole (ws : List (List UInt8)) : List UInt8 := wrapS (tagOf 17) ws.flatten
theorem mem_flat {ws : List (List UInt8)} {x : List UInt8} (h : x ∈ ws) : x.length ≤ ws.flatten.length := by
  obtain ⟨i, hi⟩ := List.mem_iff_getElem?.1 h
  have h1 := flat_take hi
  have h2 := flat_le ws (i + 1)
  rw [h1, List.length_append] at h2
  omega
end Go.Q
namespace Go.Proofs.YtacekpdjapgfcaaGreatDoor
open Go Go.RowKit Go.Q
set_option linter.unusedSimpArgs false
set_option maxRecDepth 20000 in
set_option maxHeartbeats 2000000 in
theorem insertion_up (v : Value) (ls : List (List UInt8)) (w : World) (h : Parts w v ls) (hU : Upward ls) (hl : ∀ l ∈ ls, l.length ≤ 1099511627776) (hn : ls.length ≤ 1000) :
    Calls Tryz.prog 238 #[v, .int .i64 0, .int .i64 ls.length, .func (.func 146) #[] #[]] w fun e w' => e = .returned (.tuple #[]) ∧ Fr (fun _ => False) w w' := by
  obtain ⟨a, cap, rfl, hx⟩ := h.form
  have HX := Lib.hid hx
  have HU := Lib.hid hU
  have HL := Lib.hid hl
  clear h hx hU hl
  go_enter Tryz.func238, Tryz.ntmps238
  go_wp2_with fail
  go_loopg [8] ls.length (fun g ii wr => ∃ q : Nat, g = ls.length - q ∧ q ≤ 1000 ∧ ii = .int .i64 ((q : Int) + 1) ∧ Fr (fun _ => False) w wr)
  case atStart => exact ⟨0, rfl, by omega, rfl, Fr.refl _⟩
  case round =>
    obtain ⟨q, hg, hq, rfl, F⟩ := hrel
    have HG := Lib.hid hg
    have HF := Lib.hid F
    clear hg F
    by_cases hql : q + 1 < ls.length
    · have q1 : (q : Int) + 1 < (ls.length : Int) := by omega
      obtain ⟨b, off, rfl, hy⟩ := HX.out (by omega)
      obtain ⟨x, hx⟩ : ∃ x, ls[q]? = some x := ⟨_, List.getElem?_eq_getElem (by omega)⟩
      obtain ⟨y, hyy⟩ : ∃ y, ls[q + 1]? = some y := ⟨_, List.getElem?_eq_getElem hql⟩
      obtain ⟨px, cx, e1, hbx⟩ := hy q x hx
      obtain ⟨py, cy, e2, hby⟩ := hy (q + 1) y hyy
      have hcmp := HU.out q x y hx hyy
      obtain ⟨k, hk⟩ : ∃ k, k = cmpS y x := ⟨_, rfl⟩
      rw [← hk] at hcmp
      have HK := Lib.hid hk
      have hlx := HL.out x (List.mem_of_getElem? hx)
      have hly := HL.out y (List.mem_of_getElem? hyy)
      have HE := Lib.hid (fun w' (f : Fr (fun _ => False) w w') => And.intro (f.cell e1 (fun h => h)) (f.cell e2 (fun h => h)))
      have HC := Lib.hid (fun w' (f : Fr (fun _ => False) w w') => compare_any _ _ y x w' (hby.old f) (hbx.old f) hly hlx)
      rw [← HK.out] at HC
      have c1 : ¬ k < 0 := by omega
      have c2 : (0 : Int) < (q : Int) + 1 := by omega
      have c3 : (0 : Int) ≤ (q : Int) := by omega
      have c4 : (q : Int) < (ls.length : Int) := by omega
      clear hy hx hyy e1 e2 hbx hby hk hlx hly
      go_wp2_with fail
      go_loopg [9] 1 (fun g jj wx => g = 1 ∧ jj = .int .i64 ((q : Int) + 1) ∧ wx = wr)
      case atStart => exact ⟨rfl, rfl, rfl⟩
      case round =>
        obtain ⟨hg1, rfl, rfl⟩ := hrel
        clear hg1
        have HFD := Lib.hid HF.out.drew
        have hw1 : IntKind.i64.wrap ((q : Int) + 1 - 1) = (q : Int) := by simp [IntKind.wrap, IntKind.signed, IntKind.bits]; omega
        have hw2 : IntKind.i64.wrap (q : Int) = (q : Int) := by simp [IntKind.wrap, IntKind.signed, IntKind.bits]; omega
        have c6 : (0 : Int) ≤ (q : Int) + 1 := by omega
        have c7 : ((q : Int) + 1).toNat = q + 1 := by omega
        have c1' : decide (k < 0) = false := decide_eq_false (by omega)
        have c2' : decide ((0 : Int) < (q : Int) + 1) = true := decide_eq_true (by omega)
        have c5 : q < ls.length := by omega
        go_upto_region 4 with fail
        go_region_held3 (fun w' => w'.cell? ⟨b, off + q, none⟩ = some (.slice px x.length cx) ∧ w'.cell? ⟨b, off + (q + 1), none⟩ = some (.slice py y.length cy)) (first | exact HE.out _ HFD.out | exact HE.out _ (HFD.out.trans F2)) (first
          | (go_at_call 146; refine (HC.out _ HFD.out).mono ?_; rintro e w2 ⟨rfl, F2⟩))
        all_goals
          have HF2 := Lib.hid (HFD.out.trans F2)
          clear F2 hw1 hw2 c7 c1' c2' HFD
          go_wp2_with fail
          go_roundg (ls.length - (q + 1))
          case measure => rw [HG.out]; omega
          case rel => exact ⟨q + 1, rfl, by omega, by go_num, HF2.out⟩
    · have q1 : ¬ (q : Int) + 1 < (ls.length : Int) := by omega
      go_wp2_with fail
      go_end0
      exact ⟨rfl, HF.out⟩
set_option maxRecDepth 20000 in
set_option maxHeartbeats 2000000 in
theorem stable_up (v : Value) (ls : List (List UInt8)) (w : World) (h : Parts w v ls) (hU : Upward ls) (hl : ∀ l ∈ ls, l.length ≤ 1099511627776) (hn : ls.length ≤ 19) :
    Calls Tryz.prog 189 #[v, .int .i64 ls.length, .func (.func 146) #[] #[]] w fun e w' => e = .returned (.tuple #[]) ∧ Fr (fun _ => False) w w' := by
  have HI := Lib.hid (insertion_up v ls w h hU hl (by omega))
  obtain ⟨a, cap, rfl, -⟩ := h.form
  have q1 : ¬ (20 : Int) ≤ (ls.length : Int) := by omega
  have q2 : ¬ (20 : Int) < (ls.length : Int) := by omega
  clear h hU hl
  go_enter Tryz.func189, Tryz.ntmps189
  go_wp2_with fail
  go_loopg [7, 8] 1 (fun g aa bb wr => g = 1 ∧ aa = .int .i64 0 ∧ bb = .int .i64 20 ∧ wr = w)
  case atStart => exact ⟨rfl, rfl, rfl, rfl⟩
  case round =>
    obtain ⟨hg, rfl, rfl, rfl⟩ := hrel
    clear hg
    go_wp2_with fail
    refine HI.out.mono ?_
    rintro e w1 ⟨rfl, F1⟩
    have HF1 := Lib.hid F1
    clear F1
    go_wp2_with fail
    go_loopg [6] 1 (fun g bs wr => g = 1 ∧ bs = .int .i64 20 ∧ wr = w1)
    case atStart => exact ⟨rfl, rfl, rfl⟩
    case round =>
      obtain ⟨hg, rfl, rfl⟩ := hrel
      clear hg
      go_wp2_with fail
      go_end0
      exact ⟨rfl, HF1.out⟩
set_option maxRecDepth 20000 in
theorem sortStable_up (v : Value) (ls : List (List UInt8)) (w : World) (h : Parts w v ls) (hU : Upward ls) (hl : ∀ l ∈ ls, l.length ≤ 1099511627776) (hn : ls.length ≤ 19) :
    Calls Tryz.prog 148 #[v, .func (.func 146) #[] #[]] w fun e w' => e = .returned (.tuple #[]) ∧ Fr (fun _ => False) w w' := by
  have HI := Lib.hid (stable_up v ls w h hU hl hn)
  obtain ⟨a, cap, rfl, -⟩ := h.form
  clear h hU hl
  go_enter Tryz.func148, Tryz.ntmps148
  go_wp2_with fail
  refine HI.out.mono ?_
  rintro e w1 ⟨rfl, F1⟩
  go_wp2_with fail
  go_end0
  exact ⟨rfl, F1⟩
theorem parts_one {w : World} {ls : List (List UInt8)} {vs : List Value} (h3 : ∀ (i : Nat) (u : Value) (l : List UInt8), vs[i]? = some u → ls[i]? = some l → Bytes w u l) (h2 : vs.length = ls.length) : ∀ u ∈ vs, u.oneCell' = true := fun u hu => by
  obtain ⟨i, hi⟩ := List.mem_iff_getElem?.1 hu
  have hil : i < ls.length := by have := (List.getElem?_eq_some_iff.1 hi).1; omega
  obtain ⟨a, c, rfl, -⟩ := (h3 i u _ hi (List.getElem?_eq_getElem hil)).form
  rfl
set_option maxRecDepth 20000 in
set_option maxHeartbeats 1000000 in
theorem cloneParts_any (v : Value) (ls : List (List UInt8)) (w : World) (h : Parts w v ls) (hl : ls.length ≤ 100000000000) :
    Calls Tryz.prog 147 #[v] w fun e w' => (∃ u, e = .returned u ∧ Parts w' u ls) ∧ Fr (fun _ => False) w w' := by
  obtain ⟨vs, g1, g2, g3⟩ := h
  have h1 := parts_one g3 g2
  obtain ⟨a, cap, rfl, hc, hm, hx⟩ := g1
  have g1 : Vals w (.slice a vs.length cap) vs := ⟨a, cap, rfl, hc, hm, hx⟩
  have qT : ∀ (w : World) (a : Option Addr) (n c n' c' : Nat), (binOp .eql 136 (.slice a n c) (.slice none n' c')).run Tryz.prog w = .ok (.bool a.isNone) w := fun w a n c n' c' => Lib.run_eql_slice_nil w _ _ a n c n' c' Tryz.underlying136
  cases a with
  | none =>
    have h0 : vs = [] := by
      cases vs with
      | nil => rfl
      | cons u s =>
        obtain ⟨b, o, e, -⟩ := hx (by simp)
        cases e
    subst h0
    have hls : ls = [] := List.length_eq_zero_iff.1 g2.symm
    subst hls
    clear hx g1 g2 g3 h1
    go_enter Tryz.func147, Tryz.ntmps147
    go_wp2_with fail
    go_ret
    exact ⟨⟨_, rfl, [], Vals.nil w, rfl, fun i u l hu => by simp at hu⟩, Fr.refl _⟩
  | some ad =>
    have B0 := Blk.new w 23 #[]
    have F0 : Fr (fun _ => False) w (w.alloc (.cells #[] 23)) := (Fr.refl w).alloc _
    obtain ⟨a', c', w', hrun, hown, F1, -⟩ := append_vals Tryz.underlying136 info23 rfl (by decide) (own_block B0 0 (Nat.le_refl _) (Nat.zero_le _) w.heap.size (Nat.le_refl _)) F0.size (g1.old F0) h1 (by omega)
    rw [Nat.zero_add] at hrun hown
    have hF := F0.trans' F1 (fun i hi e => by simp [Value.ownBlock] at e; omega)
    have HF := Lib.hid hF
    have HP := Lib.hid (show Parts w' (.slice a' vs.length c') ls from ⟨vs, (Vals.of_own hown).1, g2, fun i u l hu hl => (g3 i u l hu hl).old hF⟩)
    have HRUN := Lib.hid hrun
    clear hrun hown F1 B0 F0 g1 g2 g3 h1 hx hF
    go_enter Tryz.func147, Tryz.ntmps147
    go_wp2_with (at_builtin; refine wpList_append_run (by rfl) (.tmp 5) (.tmp 6) 136 (by rfl) _ w' (by exact HRUN.out) ?_)
    go_ret
    exact ⟨⟨_, rfl, HP.out⟩, HF.out⟩
set_option maxRecDepth 20000 in
set_option maxHeartbeats 1000000 in
theorem setOf_up (v : Value) (ls : List (List UInt8)) (w : World) (h : Parts w v ls) (hU : Upward ls) (hf : ls.flatten.length ≤ 16777216) (hn : ls.length ≤ 19) (hl : ∀ l ∈ ls, l.length ≤ 1099511627776) :
    Calls Tryz.prog 105 #[v] w fun e w' => (∃ a c, e = .returned (.tuple #[.slice a (wrapS (tagOf 17) ls.flatten).length c, .int .i64 0]) ∧ w'.ownsRow w.heap.size 5 1 (.slice a (wrapS (tagOf 17) ls.flatten).length c) (wrapS (tagOf 17) ls.flatten).length (Lib.byteCells (wrapS (tagOf 17) ls.flatten))) ∧ Fr (fun _ => False) w w' := by
  have HC := Lib.hid (cloneParts_any v ls w h (by omega))
  obtain ⟨a, cap, rfl, -⟩ := h.form
  have HU := Lib.hid hU
  have HL := Lib.hid hl
  obtain ⟨T, hT⟩ : ∃ T, T = tagOf 17 := ⟨_, rfl⟩
  have HTG := Lib.hid (show tagGood T from by rw [hT]; exact ⟨by decide, by decide⟩)
  have HT := Lib.hid hT
  rw [← hT]
  clear h hU hl hT
  go_enter Tryz.func105, Tryz.ntmps105
  go_wp2_with fail
  refine HC.out.mono ?_
  rintro e w1 ⟨⟨u, rfl, hp⟩, F1⟩
  obtain ⟨a1, c1, rfl, -⟩ := hp.form
  have HS := Lib.hid (sortStable_up _ ls w1 hp HU.out HL.out hn)
  have HP := Lib.hid hp
  have HF1 := Lib.hid F1
  clear hp F1 HC
  go_wp2_with fail
  refine HS.out.mono ?_
  rintro e w2 ⟨rfl, F2⟩
  have HP2 := Lib.hid (HP.out.old F2)
  have HF2 := Lib.hid (HF1.out.trans F2)
  clear F2 HS HP HF1
  go_wp2_with fail
  refine (headOf_any 17 _).mono ?_
  rintro e w3 ⟨rfl, F3⟩
  rw [← HT.out]
  have HW := Lib.hid (wrap_any T HTG.out _ ls w3 (HP2.out.old F3) hf (by omega))
  have HF3 := Lib.hid (HF2.out.trans F3)
  clear F3 HP2 HF2
  go_wp2_with fail
  refine HW.out.mono ?_
  rintro e w4 ⟨v4, rfl, hown, F4⟩
  obtain ⟨a4, m4, c4, rfl, rfl⟩ := own_shape hown
  have HO := Lib.hid (own_le hown HF3.out.size)
  have HF4 := Lib.hid (HF3.out.trans F4)
  clear hown F4 HW
  go_wp2_with fail
  exact bodyPost_ret (v := .tuple #[.slice a4 (wrapS T ls.flatten).length c4, .int .i64 0]) (by simp [results, Tryz.results105, go_sem]) rfl ⟨⟨a4, c4, rfl, HO.out⟩, HF4.out⟩
def writeRdnOut (w w' : World) (r : Option (List (List UInt8))) (e : Ending) : Prop :=
  match r with
  | none => e = .returned (.tuple #[.slice none 0 0, .int .i64 1])
  | some ws => ∃ a c, e = .returned (.tuple #[.slice a (rdnWhole ws).length c, .int .i64 0]) ∧ w'.ownsRow w.heap.size 5 1 (.slice a (rdnWhole ws).length c) (rdnWhole ws).length (Lib.byteCells (rdnWhole ws))
set_option maxRecDepth 20000 in
set_option maxHeartbeats 1000000 in
theorem writeRdn_any (v : Value) (l : List Part) (w : World) (h : Attrs w v l) (hf : fewB l) (hs : ∀ ws, rdnS l = some ws → ws.flatten.length ≤ 16777216) :
    Calls Tryz.prog 57 #[v] w fun e w' => writeRdnOut w w' (rdnS l) e ∧ Fr (fun _ => False) w w' := by
  have HW := Lib.hid (wholesRdn_any v l w h hf)
  have HS := Lib.hid hs
  obtain ⟨a, cap, rfl, -⟩ := h
  clear hs
  go_enter Tryz.func57, Tryz.ntmps57
  go_wp2_with fail
  refine HW.out.mono ?_
  rintro e w1 ⟨⟨u, rfl, hr⟩, F1⟩
  have HF1 := Lib.hid F1
  clear F1 HW
  cases hd : rdnS l with
  | none =>
    clear hr
    have HD := Lib.hid hd
    clear hd
    simp only [Option.isSome_none]
    go_wp2_with fail
    refine bodyPost_ret (v := .tuple #[.slice none 0 0, .int .i64 1]) (by simp [results, Tryz.results57, go_sem]) rfl ⟨?_, HF1.out⟩
    rw [HD.out]
    rfl
  | some ws =>
    have hp := (hr ws hd).parts
    obtain ⟨hu, hn⟩ := rdn_up hd
    have hsz := HS.out ws hd
    obtain ⟨a1, c1, rfl, -⟩ := hp.form
    have HSO := Lib.hid (setOf_up _ ws w1 hp hu hsz (by omega) (fun l hl => by have := mem_flat hl; omega))
    obtain ⟨R, hR⟩ : ∃ R, R = rdnWhole ws := ⟨_, rfl⟩
    have HR := Lib.hid hR
    rw [show wrapS (tagOf 17) ws.flatten = R from hR.symm] at HSO
    simp only [Option.isSome_some]
    have HD := Lib.hid hd
    clear hr hp hu hsz hd hR
    go_wp2_with fail
    refine HSO.out.mono ?_
    rintro e w2 ⟨⟨a2, c2, rfl, hown⟩, F2⟩
    have HO := Lib.hid (own_le hown HF1.out.size)
    have HF2 := Lib.hid (HF1.out.trans F2)
    clear hown F2 HSO
    go_wp2_with fail
    refine bodyPost_ret (v := .tuple #[.slice a2 R.length c2, .int .i64 0]) (by simp [results, Tryz.results57, go_sem]) rfl ⟨?_, HF2.out⟩
    rw [HD.out]
    unfold writeRdnOut
    simp only
    rw [← HR.out]
    exact ⟨a2, c2, rfl, HO.out⟩
end Go.Proofs.YtacekpdjapgfcaaGreatDoor

namespace Go.Proofs.YtacekpdjapgfcaaGreatDoor
open Go Go.RowKit Go.Q
set_option linter.unusedSimpArgs false
theorem info158 : (Tryz.prog.info? 158).map (fun i => (i.zero, i.size, i.bytes)) = some (some (.agg #[.int .i64 0, .int .i64 0, .bool false, .bool false, .slice none 0 0]), 5, 56) := by kernel_rfl
theorem setAt4 {w : World} {z : Nat} {t : TypeId} {a0 a1 a2 a3 a4 a5 a6 : Value} (B : Blk w z t #[a0, a1, a2, a3, a4, a5, a6]) (v : Value) : Blk (w.setCell ⟨z, 4, none⟩ v) z t #[a0, a1, a2, a3, v, a5, a6] ∧ Fr (fun k => k = z) w (w.setCell ⟨z, 4, none⟩ v) :=
  ⟨by have := B.set 4 v; simpa using this, Fr.setCell (S := fun k => k = z) (p := ⟨z, 4, none⟩) (Fr.refl w) (fun _ => rfl) _⟩
set_option maxRecDepth 20000 in
theorem off_no (sb : Nat) (w : World) (h : w.cell? ⟨sb, 6, none⟩ = some (.int .i64 0)) :
    Calls Tryz.prog 106 #[pt sb] w fun e w' => e = .returned (.bool false) ∧ w = w' := by
  go_enter Tryz.func106, Tryz.ntmps106
  go_wp2_with fail
  go_ret
  exact ⟨rfl, rfl⟩
set_option maxRecDepth 20000 in
set_option maxHeartbeats 1000000 in
theorem frameAdd_any (sb : Nat) (t : TypeId) (a0 a1 a2 a3 a5 a6 bv u : Value) (base n : Nat) (xs ys : List UInt8) (w : World) (B : Blk w sb t #[a0, a1, a2, a3, bv, a5, a6]) (ho : w.ownsRow base 5 1 bv n (Lib.byteCells xs)) (hu : Bytes w u ys) (hb : base ≤ w.heap.size) (hap : ∀ k, bv.ownBlock = some k → k ≠ sb) (hn : n + ys.length ≤ 100000000) :
    Calls Tryz.prog 107 #[pt sb, u] w fun e w' => e = .returned (.tuple #[]) ∧ ∃ v, Blk w' sb t #[a0, a1, a2, a3, v, a5, a6] ∧ w'.ownsRow base 5 1 v (n + ys.length) (Lib.byteCells (xs ++ ys)) ∧ (∀ k, v.ownBlock = some k → bv.ownBlock = some k ∨ w.heap.size ≤ k) ∧ Fr (fun k => k = sb ∨ bv.ownBlock = some k) w w' := by
  obtain ⟨ab, mb, cb, rfl, rfl⟩ := own_shape ho
  obtain ⟨au, cu, rfl, -⟩ := hu.form
  have e4 := B.cell 4
  simp at e4
  obtain ⟨v, w1, hrun, ho1, F1, hv⟩ := append_bytes ho au ys.length cu ys hu (by omega) hb
  have B1 := B.fr F1 (fun e => hap sb e rfl)
  have SB := B1.cell
  have ZB := B1.frozen
  have HRUN := Lib.hid hrun
  have HO := Lib.hid ho1
  have HF1 := Lib.hid F1
  have HV := Lib.hid hv
  have HB1 := Lib.hid B1
  have hkp := (Vals.of_own ho).2
  have HKP := Lib.hid hkp
  have hlt := B.lt
  obtain ⟨a1, m1, c1, rfl, rfl⟩ := own_shape ho1
  clear hrun ho1 F1 hv hu ho B B1 hkp
  go_enter Tryz.func107, Tryz.ntmps107
  go_wp2_with (at_builtin; refine wpList_append_run (by rfl) (.tmp 8) (.tmp 9) 23 (by rfl) _ w1 (by exact HRUN.out) ?_)
  obtain ⟨B2, F2⟩ := setAt4 HB1.out (.slice a1 (mb + ys.length) c1)
  have hne : ∀ k, (Value.slice a1 (mb + ys.length) c1).ownBlock = some k → k ≠ sb := fun k hk e => by
    subst e
    rcases HV.out with h | h
    · rw [h] at hk
      exact hap k hk rfl
    · rw [h] at hk
      simp only [Option.some.injEq] at hk
      omega
  go_end0
  exact ⟨rfl, _, B2, ownsRow_fr HO.out F2 hne, fun k hk => by
    rcases HV.out with h | h
    · exact .inl (h ▸ hk)
    · rw [h] at hk
      simp only [Option.some.injEq] at hk
      exact .inr (by omega), (HF1.out.mono (fun _ _ h => .inr h)).trans (F2.mono (fun _ _ h => .inl h))⟩
structure Frm where
  tag : Tag
  set : Bool
  b : List UInt8
def frmCells (f : Frm) (bv : Value) : List Value := [.int .i64 f.tag.cls, .int .i64 f.tag.num, .bool f.tag.made, .bool f.set, bv]
def SheetAt (w : World) (base : Nat) (foot : Nat → Prop) (sb : Nat) (cur : Frm) (ar : List Frm) : Prop :=
  ∃ (bv av : Value) (bvs : List Value), Blk w sb 161 #[.int .i64 cur.tag.cls, .int .i64 cur.tag.num, .bool cur.tag.made, .bool cur.set, bv, av, .int .i64 0] ∧ foot sb ∧ w.ownsRow base 5 1 bv cur.b.length (Lib.byteCells cur.b) ∧
    bvs.length = ar.length ∧ w.ownsRow base 158 5 av ar.length (List.zipWith frmCells ar bvs).flatten ∧ (∀ (i : Nat) (b : Value) (f : Frm), bvs[i]? = some b → ar[i]? = some f → w.ownsRow base 5 1 b f.b.length (Lib.byteCells f.b)) ∧
    (∀ k, bv.ownBlock = some k → k ≠ sb ∧ foot k) ∧ (∀ k, av.ownBlock = some k → k ≠ sb ∧ bv.ownBlock ≠ some k ∧ foot k) ∧ (∀ b ∈ bvs, ∀ k, b.ownBlock = some k → k ≠ sb ∧ bv.ownBlock ≠ some k ∧ av.ownBlock ≠ some k ∧ foot k) ∧ bvs.Pairwise (fun b b' => ∀ k, b.ownBlock = some k → b'.ownBlock ≠ some k)
theorem SheetAt.fr {w w' : World} {base sb : Nat} {foot S : Nat → Prop} {cur : Frm} {ar : List Frm} (h : SheetAt w base foot sb cur ar) (f : Fr S w w') (hS : ∀ k, foot k → ¬ S k) : SheetAt w' base foot sb cur ar := by
  obtain ⟨bv, av, bvs, B, h0, h1, h2, h3, h4, h5, h6, h7, h8⟩ := h
  exact ⟨bv, av, bvs, B.fr f (hS sb h0), h0, ownsRow_fr h1 f (fun k hk => hS k (h5 k hk).2), h2, ownsRow_fr h3 f (fun k hk => hS k (h6 k hk).2.2), fun i b g hb hg => ownsRow_fr (h4 i b g hb hg) f (fun k hk => hS k (h7 b (List.mem_of_getElem? hb) k hk).2.2.2), h5, h6, h7, h8⟩
theorem SheetAt.old {w w' : World} {base sb : Nat} {foot : Nat → Prop} {cur : Frm} {ar : List Frm} (h : SheetAt w base foot sb cur ar) (f : Fr (fun _ => False) w w') : SheetAt w' base foot sb cur ar := h.fr f (fun _ _ h => h)
theorem SheetAt.lt {w : World} {base sb : Nat} {foot : Nat → Prop} {cur : Frm} {ar : List Frm} (h : SheetAt w base foot sb cur ar) : sb < w.heap.size := by
  obtain ⟨bv, av, bvs, B, -⟩ := h
  exact B.lt
theorem sheetNew_any (w : World) :
    Calls Tryz.prog 54 #[] w fun e w' => e = .returned (pt w.heap.size) ∧ SheetAt w' w.heap.size (fun k => k = w.heap.size) w.heap.size ⟨⟨0, 0, false⟩, false, []⟩ [] ∧ Fr (fun _ => False) w w' := by
  go_enter Tryz.func54, Tryz.ntmps54
  go_wp2_with fail
  go_ret
  refine ⟨rfl, ⟨.slice none 0 0, .slice none 0 0, [], Blk.new w _ _, rfl, ⟨rfl, .inl ⟨rfl, rfl⟩⟩, rfl, ⟨rfl, .inl ⟨rfl, rfl⟩⟩, (fun i b f h => by simp at h), (fun k h => by cases h), (fun k h => by cases h), (fun b h => by simp at h), List.Pairwise.nil⟩, (Fr.refl w).alloc _⟩
def Frm.more (f : Frm) (l : List UInt8) : Frm := ⟨f.tag, f.set, f.b ++ l⟩
theorem sheetAdd_any (sb base : Nat) (foot : Nat → Prop) (cur : Frm) (ar : List Frm) (u : Value) (ys : List UInt8) (w : World) (h : SheetAt w base foot sb cur ar) (hu : Bytes w u ys) (hb : base ≤ w.heap.size) (hn : cur.b.length + ys.length ≤ 100000000) :
    Calls Tryz.prog 107 #[pt sb, u] w fun e w' => e = .returned (.tuple #[]) ∧ SheetAt w' base (fun k => foot k ∨ w.heap.size ≤ k) sb (cur.more ys) ar ∧ Fr foot w w' := by
  have hlt := h.lt
  obtain ⟨bv, av, bvs, B, h0, h1, h2, h3, h4, h5, h6, h7, h8⟩ := h
  have hlk := (Vals.of_own h1).2
  refine (frameAdd_any sb _ _ _ _ _ _ _ bv u base cur.b.length cur.b ys w B h1 hu hb (fun k hk => (h5 k hk).1) hn).mono fun e w' ⟨he, v, B2, ho, hv, F⟩ => ⟨he, ⟨v, av, bvs, B2, .inl h0, ?_, h2, ?_, fun i b g hg1 hg2 => ?_, fun k hk => ?_, fun k hk => ?_, fun b hbm k hk => ?_, h8⟩, F.mono (fun k _ hk => ?_)⟩
  · show w'.ownsRow base 5 1 v (cur.b ++ ys).length (Lib.byteCells (cur.b ++ ys))
    rw [List.length_append]
    exact ho
  · exact ownsRow_fr h3 F (fun k hk e => by
      rcases e with e | e
      · exact (h6 k hk).1 e
      · exact (h6 k hk).2.1 e)
  · exact ownsRow_fr (h4 i b g hg1 hg2) F (fun k hk e => by
      have := h7 b (List.mem_of_getElem? hg1) k hk
      rcases e with e | e
      · exact this.1 e
      · exact this.2.1 e)
  · rcases hv k hk with h | h
    · exact ⟨(h5 k h).1, .inl (h5 k h).2⟩
    · exact ⟨by omega, .inr h⟩
  · refine ⟨(h6 k hk).1, fun e => ?_, .inl (h6 k hk).2.2⟩
    rcases hv k e with h | h
    · exact (h6 k hk).2.1 h
    · have := h3.lt k hk
      omega
  · have := h7 b hbm k hk
    refine ⟨this.1, fun e => ?_, this.2.2.1, .inl this.2.2.2⟩
    rcases hv k e with h | h
    · exact this.2.1 h
    · obtain ⟨i, hi⟩ := List.mem_iff_getElem?.1 hbm
      have hil : i < ar.length := by have := (List.getElem?_eq_some_iff.1 hi).1; omega
      have := (h4 i b _ hi (List.getElem?_eq_getElem hil)).lt k hk
      omega
  · rcases hk with hk | hk
    · subst hk; exact h0
    · exact (h5 k hk).2
set_option maxRecDepth 20000 in
set_option maxHeartbeats 2000000 in
theorem sheetPut_any (sb base : Nat) (foot : Nat → Prop) (cur : Frm) (ar : List Frm) (u : Value) (ls : List (List UInt8)) (w : World) (h : SheetAt w base foot sb cur ar) (hu : Kept (fun W => Parts W u ls) foot w) (hb : base ≤ w.heap.size) (hn : cur.b.length + ls.flatten.length ≤ 100000000) (hln : ls.length ≤ 1000000) :
    Calls Tryz.prog 59 #[pt sb, u] w fun e w' => e = .returned (.tuple #[]) ∧ SheetAt w' base (fun k => foot k ∨ w.heap.size ≤ k) sb (cur.more ls.flatten) ar ∧ Fr foot w w' := by
  have H := Lib.hid h
  have HU := Lib.hid hu
  obtain ⟨a, cap, rfl, -⟩ := hu.now.form
  obtain ⟨bv, av, bvs, B, h0, -⟩ := h
  have e6 := B.cell 6
  simp at e6
  clear B hu h0
  go_enter Tryz.func59, Tryz.ntmps59
  go_wp2_with fail
  refine (off_no sb w e6).mono ?_
  rintro e w0 ⟨rfl, rfl⟩
  clear e6
  go_wp2_with fail
  go_loopg [10] ls.length (fun g ii wr => ∃ j : Nat, g = ls.length - j ∧ j ≤ ls.length ∧ ii = .int .i64 j ∧ SheetAt wr base (fun k => foot k ∨ w.heap.size ≤ k) sb (cur.more (ls.take j).flatten) ar ∧ Fr foot w wr)
  case atStart =>
    obtain ⟨bv, av, bvs, B, h0, h1, h2, h3, h4, h5, h6, h7, h8⟩ := H.out
    refine ⟨0, rfl, Nat.zero_le _, rfl, ⟨bv, av, bvs, B, .inl h0, ?_, h2, h3, h4, fun k hk => ⟨(h5 k hk).1, .inl (h5 k hk).2⟩, fun k hk => ⟨(h6 k hk).1, (h6 k hk).2.1, .inl (h6 k hk).2.2⟩, fun b hb k hk => ⟨(h7 b hb k hk).1, (h7 b hb k hk).2.1, (h7 b hb k hk).2.2.1, .inl (h7 b hb k hk).2.2.2⟩, h8⟩, Fr.refl _⟩
    simpa [Frm.more] using h1
  case round =>
    obtain ⟨j, hg, hj, rfl, hS, F⟩ := hrel
    have HG := Lib.hid hg
    have HS := Lib.hid hS
    have HF := Lib.hid F
    clear hg hS F
    by_cases hjl : j < ls.length
    · have q1 : (j : Int) < (ls.length : Int) := by omega
      have hP := HU.out wr HF.out
      obtain ⟨_, _, he, hx⟩ := hP.form
      simp only [Value.slice.injEq, true_and] at he
      obtain ⟨rfl, rfl⟩ := he
      obtain ⟨b, off, rfl, hy⟩ := hx (by omega)
      obtain ⟨l, hl⟩ : ∃ l, ls[j]? = some l := ⟨_, List.getElem?_eq_getElem hjl⟩
      obtain ⟨pl, cl, e1, hbl⟩ := hy j l hl
      have hft := flat_take hl
      have hfl := flat_le ls (j + 1)
      rw [hft, List.length_append] at hfl
      have HA := Lib.hid (sheetAdd_any sb base _ _ ar _ l wr HS.out hbl (Nat.le_trans hb HF.out.size) (by
        show (cur.b ++ (ls.take j).flatten).length + l.length ≤ 100000000
        rw [List.length_append]; omega))
      have HFT := Lib.hid hft
      have s0 : (0 : Int) ≤ (j : Int) := by omega
      have hlt := HS.out.lt
      have hs0 := HF.out.size
      clear hP hx hy hl hbl hft hfl
      go_wp2_with fail
      refine HA.out.mono ?_
      rintro e w1 ⟨rfl, S1, F1⟩
      have HF1 := Lib.hid (HF.out.trans' F1 (fun k hk e => by
        rcases e with e | e
        · exact e
        · omega))
      have S2 : SheetAt w1 base (fun k => foot k ∨ w.heap.size ≤ k) sb (cur.more (ls.take (j + 1)).flatten) ar := by
        obtain ⟨bv, av, bvs, B, h0, h1, h2, h3, h4, h5, h6, h7, h8⟩ := S1
        have hw : ∀ k, ((foot k ∨ w.heap.size ≤ k) ∨ wr.heap.size ≤ k) → (foot k ∨ w.heap.size ≤ k) := fun k hk => by
          rcases hk with h | h
          · exact h
          · exact .inr (by omega)
        have hm : (cur.more (ls.take j).flatten).more l = cur.more (ls.take (j + 1)).flatten := by
          rw [HFT.out]
          simp [Frm.more]
        rw [← hm]
        exact ⟨bv, av, bvs, B, hw _ h0, h1, h2, h3, h4, fun k hk => ⟨(h5 k hk).1, hw k (h5 k hk).2⟩, fun k hk => ⟨(h6 k hk).1, (h6 k hk).2.1, hw k (h6 k hk).2.2⟩, fun b hb k hk => ⟨(h7 b hb k hk).1, (h7 b hb k hk).2.1, (h7 b hb k hk).2.2.1, hw k (h7 b hb k hk).2.2.2⟩, h8⟩
      have HS2 := Lib.hid S2
      clear S1 F1 HA S2
      go_wp2_with fail
      go_roundg (ls.length - (j + 1))
      case measure => rw [HG.out]; omega
      case rel => exact ⟨j + 1, rfl, by omega, by go_num, HS2.out, HF1.out⟩
    · obtain rfl : j = ls.length := by omega
      have q1 : ¬ (ls.length : Int) < (ls.length : Int) := by omega
      have hS := HS.out
      rw [List.take_length] at hS
      go_wp2_with fail
      go_end0
      exact ⟨rfl, hS, HF.out⟩
end Go.Proofs.YtacekpdjapgfcaaGreatDoor

namespace Go.Proofs.YtacekpdjapgfcaaGreatDoor
open Go Go.RowKit Go.Q
set_option linter.unusedSimpArgs false
set_option maxRecDepth 20000 in
theorem sheetFail_no (sb base : Nat) (foot : Nat → Prop) (cur : Frm) (ar : List Frm) (w : World) (h : SheetAt w base foot sb cur ar) :
    Calls Tryz.prog 58 #[pt sb, .int .i64 0] w fun e w' => e = .returned (.tuple #[]) ∧ SheetAt w' base foot sb cur ar ∧ Fr foot w w' := by
  have hlt := h.lt
  obtain ⟨bv, av, bvs, B, h0, h1, h2, h3, h4, h5, h6, h7, h8⟩ := h
  have e6 := B.cell 6
  have f6 := B.frozen 6
  simp at e6
  have B2 : Blk (w.setCell ⟨sb, 6, none⟩ (.int .i64 0)) sb 161 #[.int .i64 cur.tag.cls, .int .i64 cur.tag.num, .bool cur.tag.made, .bool cur.set, bv, av, .int .i64 0] := by
    have := B.set 6 (.int .i64 0)
    simpa using this
  have F2 : Fr (fun k => k = sb) w (w.setCell ⟨sb, 6, none⟩ (.int .i64 0)) := Fr.setCell (S := fun k => k = sb) (p := ⟨sb, 6, none⟩) (Fr.refl w) (fun _ => rfl) _
  have HB := Lib.hid B2
  have HF := Lib.hid F2
  have HH := Lib.hid (show SheetAt (w.setCell ⟨sb, 6, none⟩ (.int .i64 0)) base foot sb cur ar from ⟨bv, av, bvs, B2, h0, ownsRow_fr h1 F2 (fun k hk => (h5 k hk).1), h2, ownsRow_fr h3 F2 (fun k hk => (h6 k hk).1), fun i b g hb hg => ownsRow_fr (h4 i b g hb hg) F2 (fun k hk => (h7 b (List.mem_of_getElem? hb) k hk).1), h5, h6, h7, h8⟩)
  clear B B2 F2 h1 h2 h3 h4 h5 h6 h7 h8
  go_enter Tryz.func58, Tryz.ntmps58
  go_wp2_with fail
  refine (off_no sb w e6).mono ?_
  rintro e w0 ⟨rfl, rfl⟩
  go_wp2_with fail
  go_end0
  exact ⟨rfl, HH.out, HF.out.mono (fun k _ hk => by rw [hk]; exact h0)⟩
theorem set5of7 {w : World} {z : Nat} {t : TypeId} {a0 a1 a2 a3 a4 a5 a6 : Value} (B : Blk w z t #[a0, a1, a2, a3, a4, a5, a6]) (v0 v1 v2 v3 v4 : Value) :
    Blk (((((w.setCell ⟨z, 0, none⟩ v0).setCell ⟨z, 1, none⟩ v1).setCell ⟨z, 2, none⟩ v2).setCell ⟨z, 3, none⟩ v3).setCell ⟨z, 4, none⟩ v4) z t #[v0, v1, v2, v3, v4, a5, a6] ∧ Fr (fun k => k = z) w (((((w.setCell ⟨z, 0, none⟩ v0).setCell ⟨z, 1, none⟩ v1).setCell ⟨z, 2, none⟩ v2).setCell ⟨z, 3, none⟩ v3).setCell ⟨z, 4, none⟩ v4) := by
  have G : ∀ {w' : World}, Fr (fun k => k = z) w w' → ∀ (i : Nat) (v : Value), Fr (fun k => k = z) w (w'.setCell ⟨z, i, none⟩ v) := fun f i v => Fr.setCell (S := fun k => k = z) (p := ⟨z, i, none⟩) f (fun _ => rfl) v
  refine ⟨?_, G (G (G (G (G (Fr.refl w) _ _) _ _) _ _) _ _) _ _⟩
  have := ((((B.set 0 v0).set 1 v1).set 2 v2).set 3 v3).set 4 v4
  simpa using this
theorem setAt5 {w : World} {z : Nat} {t : TypeId} {a0 a1 a2 a3 a4 a5 a6 : Value} (B : Blk w z t #[a0, a1, a2, a3, a4, a5, a6]) (v : Value) : Blk (w.setCell ⟨z, 5, none⟩ v) z t #[a0, a1, a2, a3, a4, v, a6] ∧ Fr (fun k => k = z) w (w.setCell ⟨z, 5, none⟩ v) :=
  ⟨by have := B.set 5 v; simpa using this, Fr.setCell (S := fun k => k = z) (p := ⟨z, 5, none⟩) (Fr.refl w) (fun _ => rfl) _⟩
theorem frm_one (f : Frm) {bv : Value} (h : bv.oneCell' = true) : ∀ u ∈ frmCells f bv, u.oneCell' = true := fun u hu => by
  simp only [frmCells, List.mem_cons, List.not_mem_nil, or_false] at hu
  rcases hu with rfl | rfl | rfl | rfl | rfl <;> first | rfl | exact h
set_option maxRecDepth 20000 in
set_option maxHeartbeats 2000000 in
theorem sheetOpen1_any (sb base : Nat) (foot : Nat → Prop) (cur : Frm) (ar : List Frm) (T : Tag) (st : Bool) (w : World) (h : SheetAt w base foot sb cur ar) (hb : base ≤ w.heap.size) (har : ar.length ≤ 1000) :
    Calls Tryz.prog 104 #[pt sb, .agg #[.int .i64 T.cls, .int .i64 T.num, .bool T.made, .bool st, .slice none 0 0]] w fun e w' => e = .returned (.tuple #[]) ∧ SheetAt w' base (fun k => foot k ∨ w.heap.size ≤ k) sb ⟨T, st, []⟩ (ar ++ [cur]) ∧ Fr foot w w' := by
  have hlt := h.lt
  have F0 : Fr (fun _ => False) w (w.alloc (.cells #[.int .i64 T.cls, .int .i64 T.num, .bool T.made, .bool st, .slice none 0 0] 158)) := (Fr.refl w).alloc _
  obtain ⟨bv, av, bvs, B, h0, h1, h2, h3, h4, h5, h6, h7, h8⟩ := h
  have hav : ∀ k, av.ownBlock = some k → k < w.heap.size := fun k hk => (h3.lt k hk).2
  have hbvl : ∀ k, bv.ownBlock = some k → k < w.heap.size := fun k hk => (h1.lt k hk).2
  have HBL := Lib.hid hbvl
  have HAV := Lib.hid hav
  replace B := B.fr F0 (fun h => h)
  replace h1 := ownsRow_fr h1 F0 (fun _ _ h => h)
  replace h3 := ownsRow_fr h3 F0 (fun _ _ h => h)
  replace h4 : ∀ (i : Nat) (b : Value) (f : Frm), bvs[i]? = some b → ar[i]? = some f → _ := fun i b f hb hf => ownsRow_fr (h4 i b f hb hf) F0 (fun _ _ h => h)
  have BF := Blk.new w 158 #[.int .i64 T.cls, .int .i64 T.num, .bool T.made, .bool st, .slice none 0 0]
  obtain ⟨z, hz⟩ : ∃ z, z = w.heap.size := ⟨_, rfl⟩
  rw [← hz] at BF
  have HZ := Lib.hid hz
  have hzs : z ≠ sb := by omega
  clear hz hav hbvl
  go_enter Tryz.func104, Tryz.ntmps104
  go_upto_region 1 with fail
  rw [← HZ.out]
  generalize (w.alloc (.cells #[.int .i64 T.cls, .int .i64 T.num, .bool T.made, .bool st, .slice none 0 0] 158)) = w0 at *
  have e6 := B.cell 6
  simp at e6
  obtain ⟨abv, nbv, cbv, rfl, hnbv⟩ := own_shape h1
  obtain ⟨aav, nav, cav, rfl, hnav⟩ := own_shape h3
  obtain ⟨cells, hcells⟩ : ∃ cells, cells = frmCells cur (.slice abv nbv cbv) := ⟨_, rfl⟩
  obtain ⟨wa, hwa⟩ : ∃ wa, wa = w0.drew.alloc (.cells cells.toArray 158) := ⟨_, rfl⟩
  have Fa : Fr (fun _ => False) w0 wa := by rw [hwa]; exact (Fr.refl w0).drew.alloc _
  have hbw := F0.size
  obtain ⟨a7, c7, w7, hrun, ho7, F7, hv7⟩ := add_gen Tryz.underlying159 info158 rfl (by decide) (by decide) h3 (Nat.le_trans hb hbw) Fa w0.heap.size cells (by rw [hcells]; rfl) (by rw [hwa]; exact Blk.new w0.drew _ _) (by rw [hcells]; exact frm_one cur rfl) (by omega)
  have B7 := B.fr F7 (fun e => (h6 sb e).1 rfl)
  have HS0 := Lib.hid B.cell
  have HSA := Lib.hid (B.alloc (.cells #[.int .i64 cur.tag.cls, .int .i64 cur.tag.num, .bool cur.tag.made, .bool cur.set, .slice abv nbv cbv] 158)).cell
  have HCa := Lib.hid (B.fr Fa (fun h => h)).cell
  have HC7 := Lib.hid B7.cell
  have HZ7 := Lib.hid B7.frozen
  have HB7 := Lib.hid B7
  have HF7 := Lib.hid F7
  have HO7 := Lib.hid ho7
  have HV7 := Lib.hid hv7
  have HCL := Lib.hid hcells
  have HBF := Lib.hid BF
  have H1 := Lib.hid h1
  have H3 := Lib.hid h3
  have H4 := Lib.hid h4
  have H5 := Lib.hid h5
  have H6 := Lib.hid h6
  have H7 := Lib.hid h7
  have H8 := Lib.hid h8
  have HN := Lib.hid hnbv
  have HNA := Lib.hid hnav
  rw [hwa, hcells] at hrun
  rw [hwa] at HCa
  rw [hcells] at HCa
  have HRUN := Lib.hid hrun
  clear hrun ho7 F7 hv7 B7 B BF Fa hwa hcells h1 h3 h4 h5 h6 h7 h8 hnbv hnav
  go_wp2_with fail
  refine (off_no sb w0 e6).mono ?_
  rintro e w0' ⟨rfl, rfl⟩
  go_upto_region 2 with fail
  have S0 := HS0.out
  have Sa := HSA.out
  have S7 := HC7.out
  have Z7 := HZ7.out
  go_region_law (first
    | (refine step_append_run (by rfl) (.tmp 10) (.tmp 15) 159 (by rfl) _ w7 (by exact HRUN.out) ?_)
    | fail)
  all_goals
    obtain ⟨B8, F8⟩ := setAt5 HB7.out (.slice a7 (ar.length + 1) c7)
    have G8 := (HF7.out.mono (T := fun k => k = sb ∨ (Value.slice aav nav cav).ownBlock = some k) (fun _ _ h => .inr h)).trans (F8.mono (fun _ _ h => .inl h))
    have BF8 := (HBF.out.fr G8 (fun e => by
      rcases e with e | e
      · exact hzs e
      · have := HAV.out z e
        have := HZ.out
        omega))
    generalize (w7.setCell ⟨sb, 5, none⟩ (.slice a7 (ar.length + 1) c7)) = w8 at *
    have SB := B8.cell
    have ZB := B8.frozen
    have SF := BF8.cell
    clear S0 Sa S7 Z7
    go_wp2_with fail
    obtain ⟨B9, F9⟩ := set5of7 B8 (.int .i64 T.cls) (.int .i64 T.num) (.bool T.made) (.bool st) (.slice none 0 0)
    generalize (((((w8.setCell ⟨sb, 0, none⟩ (.int .i64 T.cls)).setCell ⟨sb, 1, none⟩ (.int .i64 T.num)).setCell ⟨sb, 2, none⟩ (.bool T.made)).setCell ⟨sb, 3, none⟩ (.bool st)).setCell ⟨sb, 4, none⟩ (.slice none 0 0)) = w9 at *
    have G9 : Fr (fun k => k = sb ∨ (Value.slice aav nav cav).ownBlock = some k) w0 w9 := G8.trans (F9.mono (fun _ _ h => .inl h))
    have h1 := H1.out
    have h3 := H3.out
    have h4 := H4.out
    have h5 := H5.out
    have h6 := H6.out
    have h7 := H7.out
    have hv := HV7.out
    have hlt7 : ∀ k, (Value.slice a7 (ar.length + 1) c7).ownBlock = some k → k ≠ sb := fun k hk => by
      rcases hv k hk with h | h
      · exact (h6 k h).1
      · omega
    have hbl : ∀ (i : Nat) (b : Value) (f : Frm), bvs[i]? = some b → ar[i]? = some f → w9.ownsRow base 5 1 b f.b.length (Lib.byteCells f.b) := fun i b f hb hf => ownsRow_fr (h4 i b f hb hf) G9 (fun k hk e => by
      have := h7 b (List.mem_of_getElem? hb) k hk
      rcases e with e | e
      · exact this.1 e
      · exact this.2.2.1 e)
    have hbv9 := ownsRow_fr h1 G9 (fun k hk e => by
      rcases e with e | e
      · exact (h5 k hk).1 e
      · exact (h6 k e).2.1 hk)
    have hav9 := ownsRow_fr (ownsRow_fr HO7.out F8 (fun k hk e => hlt7 k hk e)) F9 (fun k hk e => hlt7 k hk e)
    have hbw2 : w.heap.size ≤ w0.heap.size := hbw
    go_end0
    refine ⟨rfl, ⟨.slice none 0 0, .slice a7 (ar.length + 1) c7, bvs ++ [.slice abv nbv cbv], B9, .inl h0, ⟨rfl, .inl ⟨rfl, rfl⟩⟩, by rw [List.length_append, List.length_append, h2]; rfl, ?_, fun i b f hb hf => ?_, (fun k hk => by cases hk), fun k hk => ⟨hlt7 k hk, by simp [Value.ownBlock], ?_⟩, fun b hb k hk => ?_, ?_⟩, (F0.mono (fun _ _ h => h.elim)).trans (G9.trans' (Fr.refl w9) (fun _ _ h => h) |>.mono (fun k _ hk => ?_))⟩
    · rw [List.length_append, List.zipWith_append h2.symm, List.flatten_append]
      have := hav9
      rw [HCL.out] at this
      simpa using this
    · rcases Nat.lt_or_ge i bvs.length with hi | hi
      · rw [List.getElem?_append_left hi] at hb
        rw [List.getElem?_append_left (by omega)] at hf
        exact hbl i b f hb hf
      · have hi2 : i = bvs.length := by
          have := (List.getElem?_eq_some_iff.1 hb).1
          simp at this
          omega
        subst hi2
        rw [List.getElem?_append_right (Nat.le_refl _)] at hb
        rw [List.getElem?_append_right (by omega)] at hf
        simp at hb
        simp [h2] at hf
        subst hb; subst hf
        exact hbv9
    · rcases hv k hk with h | h
      · exact .inl (h6 k h).2.2
      · exact .inr (by omega)
    · rcases List.mem_append.1 hb with hm | hm
      · have := h7 b hm k hk
        refine ⟨this.1, by simp [Value.ownBlock], fun e => ?_, .inl this.2.2.2⟩
        rcases hv k e with h | h
        · exact this.2.2.1 h
        · obtain ⟨i, hi⟩ := List.mem_iff_getElem?.1 hm
          have hil : i < ar.length := by have := (List.getElem?_eq_some_iff.1 hi).1; omega
          have := (h4 i b _ hi (List.getElem?_eq_getElem hil)).lt k hk
          omega
      · rw [List.mem_singleton.1 hm] at hk
        refine ⟨(h5 k hk).1, by simp [Value.ownBlock], fun e => ?_, .inl (h5 k hk).2⟩
        rcases hv k e with h | h
        · exact (h6 k h).2.1 hk
        · have := HBL.out k hk
          omega
    · rw [List.pairwise_append]
      refine ⟨H8.out, List.pairwise_singleton _ _, fun b hb b' hb' k hk => ?_⟩
      rw [List.mem_singleton.1 hb']
      exact (h7 b hb k hk).2.1
    · rcases hk with hk | hk
      · rw [hk]; exact h0
      · exact (h6 k hk).2.2
end Go.Proofs.YtacekpdjapgfcaaGreatDoor

namespace Go.Proofs.YtacekpdjapgfcaaGreatDoor
open Go Go.RowKit Go.Q
set_option linter.unusedSimpArgs false
set_option maxRecDepth 20000 in
theorem sheetOpen_any (sb base : Nat) (foot : Nat → Prop) (cur : Frm) (ar : List Frm) (T : Tag) (w : World) (h : SheetAt w base foot sb cur ar) (hb : base ≤ w.heap.size) (har : ar.length ≤ 1000) :
    Calls Tryz.prog 55 #[pt sb, tagV T] w fun e w' => e = .returned (.tuple #[]) ∧ SheetAt w' base (fun k => foot k ∨ w.heap.size ≤ k) sb ⟨T, false, []⟩ (ar ++ [cur]) ∧ Fr foot w w' := by
  have F0 : Fr (fun _ => False) w (w.alloc (.cells #[.int .i64 T.cls, .int .i64 T.num, .bool T.made] 97)) := (Fr.refl w).alloc _
  have BT := Blk.new w 97 #[.int .i64 T.cls, .int .i64 T.num, .bool T.made]
  have hs := F0.size
  have HO := Lib.hid (sheetOpen1_any sb base foot cur ar T false _ (h.old F0) (Nat.le_trans hb hs) har)
  have HF := Lib.hid F0
  obtain ⟨z, hz⟩ : ∃ z, z = w.heap.size := ⟨_, rfl⟩
  rw [← hz] at BT
  have HZ := Lib.hid hz
  have ST := BT.cell
  clear h F0 BT hz
  rw [show tagV T = .agg #[.int .i64 T.cls, .int .i64 T.num, .bool T.made] from rfl]
  go_enter Tryz.func55, Tryz.ntmps55
  go_upto_region 1 with fail
  rw [← HZ.out]
  generalize (w.alloc (.cells #[.int .i64 T.cls, .int .i64 T.num, .bool T.made] 97)) = w0 at *
  go_wp2_with fail
  refine HO.out.mono ?_
  rintro e w1 ⟨rfl, S1, F1⟩
  have HS := Lib.hid S1
  have HF1 := Lib.hid ((HF.out.mono (fun _ _ h => h.elim)).trans F1)
  clear S1 F1 HO
  go_wp2_with fail
  go_end0
  obtain ⟨bv, av, bvs, B, h0, h1, h2, h3, h4, h5, h6, h7, h8⟩ := HS.out
  have hw : ∀ k, (foot k ∨ w0.heap.size ≤ k) → (foot k ∨ w.heap.size ≤ k) := fun k hk => by
    rcases hk with h | h
    · exact .inl h
    · exact .inr (Nat.le_trans hs h)
  exact ⟨rfl, ⟨bv, av, bvs, B, hw _ h0, h1, h2, h3, h4, fun k hk => ⟨(h5 k hk).1, hw k (h5 k hk).2⟩, fun k hk => ⟨(h6 k hk).1, (h6 k hk).2.1, hw k (h6 k hk).2.2⟩, fun b hb k hk => ⟨(h7 b hb k hk).1, (h7 b hb k hk).2.1, (h7 b hb k hk).2.2.1, hw k (h7 b hb k hk).2.2.2⟩, h8⟩, HF1.out⟩
set_option maxRecDepth 20000 in
set_option maxHeartbeats 2000000 in
theorem frameWhole_any (sb base : Nat) (foot : Nat → Prop) (T : Tag) (l : List UInt8) (ar : List Frm) (w : World) (h : SheetAt w base foot sb ⟨T, false, l⟩ ar) (hT : tagGood T) (hl : l.length ≤ 16777216) :
    Calls Tryz.prog 108 #[pt sb] w fun e w' => (∃ a c, e = .returned (.tuple #[.slice a (wrapS T l).length c, .int .i64 0]) ∧ w'.ownsRow w.heap.size 5 1 (.slice a (wrapS T l).length c) (wrapS T l).length (Lib.byteCells (wrapS T l))) ∧ Fr (fun _ => False) w w' := by
  obtain ⟨bv, av, bvs, B, h0, h1, -⟩ := h
  have hv := (Vals.of_own h1).1
  simp only at hv
  obtain ⟨ab, cb, rfl, -⟩ := Vals.form hv
  have HV := Lib.hid hv
  have HS0 := Lib.hid B.cell
  have HSA := Lib.hid (B.alloc (.cells #[.slice ab l.length cb] 23)).cell
  have e3 := B.cell 3
  simp at e3
  have HW := Lib.hid (fun w' (F : Fr (fun _ => False) w w') (sl : Value) (hp : Parts w' sl [l]) => wrap_any T hT sl [l] w' hp (by simpa using hl) (by simp))
  rw [show ([l] : List (List UInt8)).flatten = l from by simp] at HW
  have hsl := B.lt
  have HB := Lib.hid B
  clear B hv h1 h0 hT
  obtain ⟨c, n, m⟩ := T
  go_enter Tryz.func108, Tryz.ntmps108
  go_upto_region 2 with fail
  have S0 := HS0.out
  have Sa := HSA.out
  simp only at S0 Sa
  obtain ⟨R, hR⟩ : ∃ R, R = wrapS ⟨c, n, m⟩ l := ⟨_, rfl⟩
  rw [← hR] at HW
  have HR := Lib.hid hR
  have HWC := Lib.hid (HW.out (w.alloc (.cells #[.slice ab l.length cb] 23)).drew ((Fr.refl w).alloc _).drew (.slice (some ⟨w.heap.size, 0, none⟩) 1 1) ((Parts.one HV.out).old (Fr.refl _).drew))
  have FA : Fr (fun _ => False) w (w.alloc (.cells #[.slice ab l.length cb] 23)).drew := ((Fr.refl w).alloc _).drew
  have HFA := Lib.hid FA
  clear hR HW HS0 HSA FA
  go_region_held3 (fun w' => ∀ i, w'.cell? ⟨sb, i, none⟩ = (#[.int .i64 c, .int .i64 n, .bool m, .bool false, .slice ab l.length cb, av, .int .i64 0] : Array Value)[i]?) (first | exact S0 | exact Sa | exact (fun i => (HB.out.fr (HFA.out.trans F2) (fun h => h)).cell i)) (first
    | (go_at_call 89; refine HWC.out.mono ?_; rintro e w2 ⟨v2, rfl, hown, F2⟩; obtain ⟨a2, m2, c2, rfl, rfl⟩ := own_shape hown))
  all_goals
    have HO := Lib.hid (own_le hown HFA.out.size)
    have HF2 := Lib.hid (HFA.out.trans F2)
    clear hown F2 HWC HFA S0 Sa
    go_wp2_with fail
    refine bodyPost_ret (v := .tuple #[.slice a2 R.length c2, .int .i64 0]) (by simp [results, Tryz.results108, go_sem]) rfl ⟨?_, HF2.out⟩
    rw [← HR.out]
    exact ⟨a2, c2, rfl, HO.out⟩
set_option maxRecDepth 20000 in
theorem sheetBytes_any (sb base : Nat) (foot : Nat → Prop) (cur : Frm) (w : World) (h : SheetAt w base foot sb cur []) (hl : cur.b.length ≤ 100000000) :
    Calls Tryz.prog 61 #[pt sb] w fun e w' => (∃ a c, e = .returned (.tuple #[.slice a cur.b.length c, .int .i64 0]) ∧ w'.ownsRow w.heap.size 5 1 (.slice a cur.b.length c) cur.b.length (Lib.byteCells cur.b)) ∧ Fr (fun _ => False) w w' := by
  obtain ⟨bv, av, bvs, B, h0, h1, h2, h3, -⟩ := h
  obtain ⟨aav, nav, cav, rfl, hnav⟩ := own_shape h3
  simp only [List.length_nil] at hnav
  subst hnav
  have hv := (Vals.of_own h1).1
  have HC := Lib.hid (cloneByte_any bv cur.b w hv (by omega))
  obtain ⟨ab, cb, rfl, -⟩ := Vals.form hv
  have e4 := B.cell 4
  have e5 := B.cell 5
  have e6 := B.cell 6
  simp at e4 e5 e6
  clear B hv h0 h1 h2 h3
  go_enter Tryz.func61, Tryz.ntmps61
  go_wp2_with fail
  refine HC.out.mono ?_
  rintro e w1 ⟨⟨u, rfl, hown⟩, F1⟩
  obtain ⟨a1, m1, c1, rfl, rfl⟩ := own_shape hown
  have HO := Lib.hid hown
  clear hown HC
  go_wp2_with fail
  exact bodyPost_ret (v := .tuple #[.slice a1 cur.b.length c1, .int .i64 0]) (by simp [results, Tryz.results61, go_sem]) rfl ⟨⟨a1, c1, rfl, HO.out⟩, F1⟩
end Go.Proofs.YtacekpdjapgfcaaGreatDoor

namespace Go.Proofs.YtacekpdjapgfcaaGreatDoor
open Go Go.RowKit Go.Q
set_option linter.unusedSimpArgs false
theorem own_front {w : World} {base n sz : Nat} {t : TypeId} {a : Option Addr} {m c : Nat} {xs : List Value} (h : w.ownsRow base t sz (.slice a m c) n xs) (k : Nat) (hk : k ≤ n) : w.ownsRow base t sz (.slice a k c) k (xs.take (k * sz)) := by
  obtain ⟨h1, h2⟩ := h
  refine ⟨by rw [List.length_take, h1]; exact Nat.min_eq_left (Nat.mul_le_mul_right sz hk), ?_⟩
  rcases h2 with ⟨he, h0⟩ | ⟨g, cap, cur, he, hg, hh, hnc, hcm, hcs, htk⟩
  · simp only [Value.slice.injEq] at he
    obtain ⟨rfl, rfl, rfl⟩ := he
    obtain rfl : k = 0 := by omega
    exact .inl ⟨rfl, rfl⟩
  · simp only [Value.slice.injEq] at he
    obtain ⟨rfl, rfl, rfl⟩ := he
    refine .inr ⟨g, _, cur, rfl, hg, hh, by omega, hcm, hcs, ?_⟩
    rw [← htk, List.take_take, Nat.min_eq_left (Nat.mul_le_mul_right sz hk)]
theorem zip_frm : ∀ (ar : List Frm) (bvs : List Value) (i : Nat) (f : Frm) (b : Value), ar[i]? = some f → bvs[i]? = some b → ∀ j u, (frmCells f b)[j]? = some u → (List.zipWith frmCells ar bvs).flatten[5 * i + j]? = some u
  | [], _, i, f, b, h, _, _, _, _ => by simp at h
  | _ :: _, [], i, f, b, _, h, _, _, _ => by simp at h
  | x :: ar, y :: bvs, 0, f, b, h1, h2, j, u, hu => by
    simp only [List.getElem?_cons_zero, Option.some.injEq] at h1 h2
    subst h1; subst h2
    simp only [List.zipWith_cons_cons, List.flatten_cons, Nat.mul_zero, Nat.zero_add]
    rw [List.getElem?_append_left (List.getElem?_eq_some_iff.1 hu).1]
    exact hu
  | x :: ar, y :: bvs, i + 1, f, b, h1, h2, j, u, hu => by
    simp only [List.getElem?_cons_succ] at h1 h2
    have := zip_frm ar bvs i f b h1 h2 j u hu
    simp only [List.zipWith_cons_cons, List.flatten_cons]
    rw [List.getElem?_append_right (by simp [frmCells]; omega), show 5 * (i + 1) + j - (frmCells x y).length = 5 * i + j from by simp [frmCells]; omega]
    exact this
theorem zip_take : ∀ (ar : List Frm) (bvs : List Value) (k : Nat), ((List.zipWith frmCells ar bvs).flatten).take (k * 5) = (List.zipWith frmCells (ar.take k) (bvs.take k)).flatten
  | [], _, k => by simp
  | _ :: _, [], k => by simp
  | x :: ar, y :: bvs, 0 => by simp
  | x :: ar, y :: bvs, k + 1 => by
    have := zip_take ar bvs k
    simp only [List.zipWith_cons_cons, List.flatten_cons, List.take_succ_cons]
    rw [List.take_append, List.take_of_length_le (by simp [frmCells]; omega), ← this]
    congr 2
    simp [frmCells]; omega
theorem SheetAt.wide {w : World} {base sb : Nat} {foot foot' : Nat → Prop} {cur : Frm} {ar : List Frm} (h : SheetAt w base foot sb cur ar) (hw : ∀ k, foot k → foot' k) : SheetAt w base foot' sb cur ar := by
  obtain ⟨bv, av, bvs, B, h0, h1, h2, h3, h4, h5, h6, h7, h8⟩ := h
  exact ⟨bv, av, bvs, B, hw _ h0, h1, h2, h3, h4, fun k hk => ⟨(h5 k hk).1, hw k (h5 k hk).2⟩, fun k hk => ⟨(h6 k hk).1, (h6 k hk).2.1, hw k (h6 k hk).2.2⟩, fun b hb k hk => ⟨(h7 b hb k hk).1, (h7 b hb k hk).2.1, (h7 b hb k hk).2.2.1, hw k (h7 b hb k hk).2.2.2⟩, h8⟩
theorem own_cell {w : World} {base n sz : Nat} {t : TypeId} {a : Option Addr} {m c : Nat} {xs : List Value} (h : w.ownsRow base t sz (.slice a m c) n xs) (h0 : 0 < n) : ∃ g, a = some ⟨g, 0, none⟩ ∧ ∀ i u, xs[i]? = some u → w.cell? ⟨g, i, none⟩ = some u := by
  obtain ⟨h1, h2⟩ := h
  rcases h2 with ⟨he, hn⟩ | ⟨g, cap, cur, he, hg, hh, hnc, hcm, hcs, htk⟩
  · omega
  · simp only [Value.slice.injEq] at he
    obtain ⟨rfl, rfl, rfl⟩ := he
    refine ⟨g, rfl, fun i u hu => ?_⟩
    have hil := (List.getElem?_eq_some_iff.1 hu).1
    rw [← htk, List.getElem?_take_of_lt (by omega)] at hu
    simp only [World.cell?, hh]
    simpa using hu
set_option maxRecDepth 20000 in
set_option maxHeartbeats 4000000 in
theorem sheetShut_any (sb base : Nat) (foot : Nat → Prop) (T : Tag) (l : List UInt8) (ar : List Frm) (top : Frm) (w : World) (h : SheetAt w base foot sb ⟨T, false, l⟩ (ar ++ [top])) (hT : tagGood T) (hl : l.length ≤ 16777216) (hb : base ≤ w.heap.size) (har : ar.length ≤ 1000) (htl : top.b.length + (wrapS T l).length ≤ 100000000) :
    Calls Tryz.prog 60 #[pt sb] w fun e w' => e = .returned (.tuple #[]) ∧ SheetAt w' base (fun k => foot k ∨ w.heap.size ≤ k) sb (top.more (wrapS T l)) ar ∧ Fr foot w w' := by
  have HW := Lib.hid (frameWhole_any sb base foot T l (ar ++ [top]) w h hT hl)
  have hlt := h.lt
  obtain ⟨bv, av, bvs, B, h0, h1, h2, h3, h4, h5, h6, h7, h8⟩ := h
  rw [List.length_append, List.length_singleton] at h2 h3
  obtain ⟨aav, nav, cav, rfl, rfl⟩ := own_shape h3
  obtain ⟨tb, htb⟩ : ∃ tb, bvs[ar.length]? = some tb := ⟨_, List.getElem?_eq_getElem (by omega)⟩
  have hat : (ar ++ [top])[ar.length]? = some top := by rw [List.getElem?_append_right (Nat.le_refl _)]; simp
  have htown := h4 _ _ _ htb hat
  obtain ⟨atb, ntb, ctb, rfl, hntb⟩ := own_shape htown
  subst hntb
  obtain ⟨R, hR⟩ : ∃ R, R = wrapS T l := ⟨_, rfl⟩
  rw [← hR] at HW htl ⊢
  have HR := Lib.hid hR
  clear hR
  have e5 := B.cell 5
  have e6 := B.cell 6
  simp at e5 e6
  have hw1 : IntKind.i64.wrap (((ar.length + 1 : Nat) : Int) - 1) = (ar.length : Int) := by simp [IntKind.wrap, IntKind.signed, IntKind.bits]; omega
  have q1 : ¬ (ar.length : Int) < 0 := by omega
  go_enter Tryz.func60, Tryz.ntmps60
  go_wp2_with fail
  refine (off_no sb w e6).mono ?_
  rintro e w0 ⟨rfl, rfl⟩
  go_upto_region 4 with fail
  go_wp2_with fail
  refine HW.out.mono ?_
  rintro e w1 ⟨⟨aR, cR, rfl, hown⟩, F1⟩
  have B1 := B.fr F1 (fun h => h)
  have g1 := ownsRow_fr h1 F1 (fun _ _ h => h)
  have g3 := ownsRow_fr h3 F1 (fun _ _ h => h)
  have gt := ownsRow_fr htown F1 (fun _ _ h => h)
  have c5 := B1.cell 5
  simp at c5
  obtain ⟨g, rfl, hgc⟩ := own_cell g3 (by omega)
  obtain ⟨hcv, hcm⟩ : ar.length + 1 ≤ cav ∧ cav ≤ maxLen := by
    rcases g3.2 with ⟨he, -⟩ | ⟨g', cap, cur, he, -, -, hnc, hcm, -⟩
    · simp at he
    · simp only [Value.slice.injEq] at he
      obtain ⟨-, -, rfl⟩ := he
      exact ⟨hnc, hcm⟩
  have hzf : ∀ j u, (frmCells top (.slice atb top.b.length ctb))[j]? = some u → w1.cell? ⟨g, ar.length * 5 + j, none⟩ = some u := fun j u hu => by
    rw [Nat.mul_comm]
    exact hgc _ _ (zip_frm _ _ _ _ _ hat htb j u hu)
  have k0 : w1.cell? ⟨g, ar.length * 5, none⟩ = _ := hzf 0 _ rfl
  have k1 := hzf 1 _ rfl
  have k2 := hzf 2 _ rfl
  have k3 := hzf 3 _ rfl
  have k4 := hzf 4 _ rfl
  have H := Lib.hid (And.intro h1 (And.intro h3 (And.intro h4 (And.intro h5 (And.intro h6 (And.intro h7 (And.intro h8 (And.intro hat (And.intro htb (And.intro htown (And.intro B (And.intro B1 (And.intro g1 (And.intro g3 (And.intro gt (And.intro hown (And.intro F1 (And.intro hgc (And.intro hT h0)))))))))))))))))))
  clear h1 h3 h4 h5 h6 h7 h8 hat htb htown B B1 g1 g3 gt hown F1 hgc hT h0 HW e5 e6 hzf
  have SB := H.out.2.2.2.2.2.2.2.2.2.2.2.1.cell
  have ZB := H.out.2.2.2.2.2.2.2.2.2.2.2.1.frozen
  go_upto_region 8 with fail
  obtain ⟨B2, F2⟩ := set5of7 H.out.2.2.2.2.2.2.2.2.2.2.2.1 (.int .i64 top.tag.cls) (.int .i64 top.tag.num) (.bool top.tag.made) (.bool top.set) (.slice atb top.b.length ctb)
  generalize (((((w1.setCell ⟨sb, 0, none⟩ (.int .i64 top.tag.cls)).setCell ⟨sb, 1, none⟩ (.int .i64 top.tag.num)).setCell ⟨sb, 2, none⟩ (.bool top.tag.made)).setCell ⟨sb, 3, none⟩ (.bool top.set)).setCell ⟨sb, 4, none⟩ (.slice atb top.b.length ctb)) = w2 at *
  have e5 := B2.cell 5
  simp at e5
  have ZB2 := B2.frozen
  have HB2 := Lib.hid B2
  have HF2 := Lib.hid F2
  clear k0 k1 k2 k3 k4 c5 SB ZB B2 F2
  have s0 : (0 : Int) ≤ (ar.length : Int) := by omega
  have s1 : (ar.length : Int) ≤ (cav : Int) := by omega
  go_upto_region 9 with fail
  obtain ⟨B3, F3⟩ := setAt5 HB2.out (.slice (some ⟨g, 0, none⟩) ar.length cav)
  generalize (w2.setCell ⟨sb, 5, none⟩ (.slice (some ⟨g, 0, none⟩) ar.length cav)) = w3 at *
  obtain ⟨h1, h3, h4, h5, h6, h7, h8, hat, htb, htown, B, B1, g1, g3, gt, hown, F1, hgc, hT, h0⟩ := H.out
  have G3 : Fr (fun k => k = sb) w w3 := (F1.mono (fun _ _ h => h.elim)).trans (HF2.out.trans F3)
  have F13 : Fr (fun k => k = sb) w1 w3 := HF2.out.trans F3
  have g33 := own_front (ownsRow_fr g3 F13 (fun k hk => (h6 k hk).1)) ar.length (by omega)
  rw [zip_take, List.take_left' rfl] at g33
  have hmt : ∀ i b, (bvs.take ar.length)[i]? = some b → bvs[i]? = some b ∧ i < ar.length := fun i b hi => by
    have := (List.getElem?_eq_some_iff.1 hi).1
    rw [List.length_take] at this
    have hil : i < ar.length := by omega
    rw [List.getElem?_take_of_lt hil] at hi
    exact ⟨hi, hil⟩
  have S3 : SheetAt w3 base foot sb top ar := by
    refine ⟨.slice atb top.b.length ctb, .slice (some ⟨g, 0, none⟩) ar.length cav, bvs.take ar.length, B3, h0, ownsRow_fr gt F13 (fun k hk => (h7 _ (List.mem_of_getElem? htb) k hk).1), by rw [List.length_take]; omega, g33, fun i b f hb hf => ?_, fun k hk => ?_, fun k hk => ?_, fun b hb k hk => ?_, ?_⟩
    · obtain ⟨hb', hil⟩ := hmt i b hb
      exact ownsRow_fr (h4 i b f hb' (by rw [List.getElem?_append_left hil]; exact hf)) G3 (fun k hk => (h7 b (List.mem_of_getElem? hb') k hk).1)
    · have := h7 _ (List.mem_of_getElem? htb) k hk
      exact ⟨this.1, this.2.2.2⟩
    · have hk' : (Value.slice (some ⟨g, 0, none⟩) (ar.length + 1) cav).ownBlock = some k := hk
      have := h6 k hk'
      exact ⟨this.1, fun e => (h7 _ (List.mem_of_getElem? htb) k e).2.2.1 hk', this.2.2⟩
    · obtain ⟨i, hi⟩ := List.mem_iff_getElem?.1 hb
      obtain ⟨hb', hil⟩ := hmt i b hi
      have := h7 b (List.mem_of_getElem? hb') k hk
      refine ⟨this.1, fun e => ?_, this.2.2.1, this.2.2.2⟩
      have hp := List.pairwise_iff_getElem.1 h8 i ar.length (List.getElem?_eq_some_iff.1 hb').1 (by omega) hil
      rw [(List.getElem?_eq_some_iff.1 hb').2, (List.getElem?_eq_some_iff.1 htb).2] at hp
      exact hp k hk e
    · exact h8.sublist (List.take_sublist _ _)
  have hs3 := G3.size
  have hs1 := F1.size
  have hR3 := (Vals.of_own (ownsRow_fr hown F13 (fun k hk e => by
    have := (hown.lt k hk).1
    omega))).1
  have HA := Lib.hid (sheetAdd_any sb base foot top ar (.slice aR R.length cR) R w3 S3 hR3 (by omega) htl)
  have HG := Lib.hid G3
  have HR0 := Lib.hid h0
  clear h1 h3 h4 h5 h6 h7 h8 hat htb htown B B1 g1 g3 gt hown F1 hgc hT h0 B3 F3 F13 g33 S3 hR3 G3 hmt H HB2 HF2 e5 ZB2
  go_wp2_with fail
  refine HA.out.mono ?_
  rintro e w4 ⟨rfl, S4, F4⟩
  go_wp2_with fail
  go_end0
  refine ⟨rfl, S4.wide (fun k hk => ?_), (HG.out.mono (fun k _ h => h ▸ HR0.out)).trans F4⟩
  rcases hk with h | h
  · exact .inl h
  · exact .inr (by omega)
end Go.Proofs.YtacekpdjapgfcaaGreatDoor

namespace Go.Q
open Go Go.RowKit
def wholesN (n : List (List Part)) : List (List UInt8) := n.map fun r => rdnWhole ((rdnS r).getD [])
def nameWhole (n : List (List Part)) : List UInt8 := wrapS (tagOf 16) (wholesN n).flatten
end Go.Q
namespace Go.Proofs.YtacekpdjapgfcaaGreatDoor
open Go Go.RowKit Go.Q
set_option linter.unusedSimpArgs false
theorem SheetAt.now {w : World} {base sb : Nat} {foot : Nat → Prop} {cur : Frm} {ar : List Frm} (h : SheetAt w base foot sb cur ar) : SheetAt w base (fun k => foot k ∧ k < w.heap.size) sb cur ar := by
  have hlt := h.lt
  obtain ⟨bv, av, bvs, B, h0, h1, h2, h3, h4, h5, h6, h7, h8⟩ := h
  refine ⟨bv, av, bvs, B, ⟨h0, hlt⟩, h1, h2, h3, h4, fun k hk => ⟨(h5 k hk).1, (h5 k hk).2, (h1.lt k hk).2⟩, fun k hk => ⟨(h6 k hk).1, (h6 k hk).2.1, (h6 k hk).2.2, (h3.lt k hk).2⟩, fun b hb k hk => ?_, h8⟩
  have := h7 b hb k hk
  refine ⟨this.1, this.2.1, this.2.2.1, this.2.2.2, ?_⟩
  obtain ⟨i, hi⟩ := List.mem_iff_getElem?.1 hb
  have hil : i < ar.length := by have := (List.getElem?_eq_some_iff.1 hi).1; omega
  exact ((h4 i b _ hi (List.getElem?_eq_getElem hil)).lt k hk).2
theorem parts_kept {w : World} {foot : Nat → Prop} {R : List UInt8} {a : Option Addr} {n c base : Nat} (ho : w.ownsRow base 5 1 (.slice a n c) n (Lib.byteCells R)) (hf : ∀ k, foot k → k < base) (hb : base ≤ w.heap.size) : Kept (fun W => Parts W (.slice (some ⟨w.heap.size, 0, none⟩) 1 1) [R]) foot (w.alloc (.cells #[.slice a n c] 23)) := fun W F => by
  have B := (Blk.new w 23 #[.slice a n c]).fr F (fun h => by have := hf _ h; omega)
  have ho2 := ownsRow_fr (ownsRow_fr ho ((Fr.refl w).alloc _) (fun _ _ h => h)) F (fun k hk h => by have := hf _ h; have := (ho.lt k hk).1; omega)
  refine ⟨[.slice a n c], Vals.of_block B (by show 1 ≤ maxLen; decide), rfl, fun i u l hu hl => ?_⟩
  cases i with
  | zero =>
    simp only [List.getElem?_cons_zero, Option.some.injEq] at hu hl
    subst hu; subst hl
    exact (Vals.of_own ho2).1
  | succ i => simp at hu
set_option maxRecDepth 20000 in
set_option maxHeartbeats 4000000 in
theorem nameWrite_ok (v : Value) (n : List (List Part)) (w : World) (h : NameAt w v n) (hf : ∀ r ∈ n, fewB r) (hok : nameOk n = true) (hs : (wholesN n).flatten.length ≤ 16777216) :
    Calls Tryz.prog 11 #[v] w fun e w' => (∃ a c, e = .returned (.tuple #[.slice a (nameWhole n).length c, .int .i64 0]) ∧ w'.ownsRow w.heap.size 5 1 (.slice a (nameWhole n).length c) (nameWhole n).length (Lib.byteCells (nameWhole n))) ∧ Fr (fun _ => False) w w' := by
  have H := Lib.hid h
  have HRI := right_any v n w h hf
  rw [hok] at HRI
  obtain ⟨hn64, hrd⟩ := name_rdns hok
  have HRD := Lib.hid hrd
  have HS := Lib.hid hs
  obtain ⟨a, cap, rfl, hc, hm, -⟩ := h
  clear hok hrd hs
  go_enter Tryz.func11, Tryz.ntmps11
  go_wp2_with fail
  refine HRI.mono ?_
  rintro e w0 ⟨rfl, F0⟩
  have HF0 := Lib.hid F0
  clear F0 HRI
  go_wp2_with fail
  refine (sheetNew_any w0).mono ?_
  rintro e w1 ⟨rfl, S1, F1⟩
  have HS1 := Lib.hid S1
  have HF1 := Lib.hid F1
  clear S1 F1
  go_wp2_with fail
  refine (headOf_any 16 w1).mono ?_
  rintro e w2 ⟨rfl, F2⟩
  have HS2 := Lib.hid (HS1.out.old F2)
  have HF2 := Lib.hid (HF1.out.trans F2)
  have hz2 := HS2.out.lt
  have HO := Lib.hid (sheetOpen_any w0.heap.size w0.heap.size _ _ _ (tagOf 16) w2 HS2.out (by omega) (by simp))
  clear F2 HS1 HF1 HS2
  go_wp2_with fail
  refine HO.out.mono ?_
  rintro e w3 ⟨rfl, S3, F3⟩
  have HS3 := Lib.hid S3.now
  have HF3 := Lib.hid (HF2.out.trans' F3 (fun k hk e => by omega))
  clear S3 F3 HF2 HO
  go_wp2_with fail
  go_loopg [18] n.length (fun g ii wr => ∃ j : Nat, g = n.length - j ∧ j ≤ n.length ∧ ii = .int .i64 j ∧ SheetAt wr w0.heap.size (fun k => w0.heap.size ≤ k ∧ k < wr.heap.size) w0.heap.size ⟨tagOf 16, false, ((wholesN n).take j).flatten⟩ [⟨⟨0, 0, false⟩, false, []⟩] ∧ Fr (fun _ => False) w0 wr)
  case atStart =>
    exact ⟨0, rfl, Nat.zero_le _, rfl, HS3.out.wide (fun k hk => ⟨by rcases hk.1 with h | h <;> omega, hk.2⟩), HF3.out⟩
  case round =>
    obtain ⟨j, hg, hj, rfl, hS, F⟩ := hrel
    have HG := Lib.hid hg
    have HSj := Lib.hid hS
    have HF := Lib.hid F
    have HFF := Lib.hid (HF0.out.trans F)
    clear hg hS HS3 HF3
    by_cases hjl : j < n.length
    · obtain ⟨a0, cap0, he, _, _, hx⟩ := H.out.old HFF.out
      simp only [Value.slice.injEq, true_and] at he
      obtain ⟨rfl, rfl⟩ := he
      obtain ⟨b, off, rfl, hy⟩ := hx (by omega)
      obtain ⟨r, hr⟩ : ∃ r, n[j]? = some r := ⟨_, List.getElem?_eq_getElem hjl⟩
      obtain ⟨x, e1, hA⟩ := hy j r hr
      have hmem := List.mem_of_getElem? hr
      obtain ⟨ws, hws⟩ := Option.isSome_iff_exists.1 (HRD.out r hmem)
      have hwl : (wholesN n)[j]? = some (rdnWhole ws) := by
        unfold wholesN
        rw [List.getElem?_map, hr]
        simp [hws]
      have hft := flat_take hwl
      have hfl := flat_le (wholesN n) (j + 1)
      rw [hft, List.length_append] at hfl
      have hle := HS.out
      have hwr : ws.flatten.length ≤ (rdnWhole ws).length := by
        unfold rdnWhole
        rw [wrap_len]
        omega
      have HW := writeRdn_any x r wr hA (hf r hmem) (fun ws' h' => by rw [hws] at h'; cases h'; omega)
      rw [hws] at HW
      have HWR := Lib.hid HW
      have HFT := Lib.hid hft
      have r1 : (0 : Int) ≤ (j : Int) := by omega
      have r2 : (j : Int) < (n.length : Int) := by omega
      obtain ⟨R, hR⟩ : ∃ R, R = rdnWhole ws := ⟨_, rfl⟩
      rw [← hR] at hfl
      have HR := Lib.hid hR
      clear hx hy hr hA hmem hws hwl hft hwr F HW hR
      go_wp2_with fail
      refine HWR.out.mono ?_
      rintro e w4 ⟨hres, F4⟩
      unfold writeRdnOut at hres
      simp only at hres
      rw [← HR.out] at hres
      obtain ⟨aR, cR, rfl, hown⟩ := hres
      have HS4 := Lib.hid (HSj.out.old F4)
      have HF4 := Lib.hid F4
      have HOW := Lib.hid hown
      clear HWR F4 hown
      go_wp2_with fail
      refine (sheetFail_no _ _ _ _ _ w4 HS4.out).mono ?_
      rintro e w5 ⟨rfl, S5, F5⟩
      have HS5 := Lib.hid S5
      have HF5 := Lib.hid F5
      clear S5 F5 HS4
      have hown5 := ownsRow_fr HOW.out HF5.out (fun k hk e => by
        have := (HOW.out.lt k hk).1
        omega)
      have hz4 := HF4.out.size
      have hz5 := HF5.out.size
      have hz0 := HF.out.size
      have FA : Fr (fun _ => False) w5 (w5.alloc (.cells #[.slice aR R.length cR] 23)) := (Fr.refl w5).alloc _
      have hzA := FA.size
      have HP := Lib.hid (sheetPut_any w0.heap.size w0.heap.size _ _ _ _ [R] _ (HS5.out.old FA) (parts_kept hown5 (fun k hk => hk.2) (by omega)) (by omega) (by
        show ((wholesN n).take j).flatten.length + [R].flatten.length ≤ 100000000
        simp only [List.flatten_cons, List.flatten_nil, List.append_nil]
        omega) (by simp))
      have G5 := Lib.hid ((HF4.out.mono (T := fun k => w0.heap.size ≤ k) (fun _ _ h => h.elim)).trans ((HF5.out.mono (fun _ _ h => h.1)).trans (FA.mono (fun _ _ h => h.elim))))
      clear hown5 FA HS5 HF4 HF5 HOW
      go_wp2_with fail
      refine HP.out.mono ?_
      rintro e w6 ⟨rfl, S6, F6⟩
      have HS6 := Lib.hid (S6.now.wide (foot' := fun k => w0.heap.size ≤ k ∧ k < w6.heap.size) (fun k hk => ⟨by rcases hk.1 with h | h <;> omega, hk.2⟩))
      have HF6 := Lib.hid (HF.out.trans' (G5.out.trans (F6.mono (fun _ _ h => h.1))) (fun k hk e => by omega))
      clear S6 F6 G5 HP HF HFF
      go_wp2_with fail
      go_roundg (n.length - (j + 1))
      case measure => rw [HG.out]; omega
      case rel =>
        refine ⟨j + 1, rfl, by omega, by go_num, ?_, HF6.out⟩
        have := HS6.out
        rw [HFT.out, ← HR.out]
        simpa [Frm.more] using this
    · obtain rfl : j = n.length := by omega
      have q1 : ¬ (n.length : Int) < (n.length : Int) := by omega
      have hS := HSj.out
      rw [show (wholesN n).take n.length = wholesN n from List.take_of_length_le (by simp [wholesN])] at hS
      have hsl := hS.lt
      have hz0 := HF0.out.size
      have hsn := HS.out
      have hll := len_small (wholesN n).flatten.length hsn
      have hwl : (nameWhole n).length ≤ 20000000 := by
        unfold nameWhole
        rw [wrap_len]
        omega
      have HSH := Lib.hid (sheetShut_any w0.heap.size w0.heap.size _ (tagOf 16) (wholesN n).flatten [] ⟨⟨0, 0, false⟩, false, []⟩ wr hS ⟨by decide, by decide⟩ hsn (by omega) (by simp) (by
        show ([] : List UInt8).length + (nameWhole n).length ≤ 100000000
        simp only [List.length_nil]
        omega))
      clear hS
      go_wp2_with fail
      refine HSH.out.mono ?_
      rintro e w4 ⟨rfl, S4, F4⟩
      obtain ⟨R, hR⟩ : ∃ R, R = nameWhole n := ⟨_, rfl⟩
      have HB := Lib.hid (sheetBytes_any w0.heap.size w0.heap.size _ _ w4 S4 (by
        show ([] ++ nameWhole n).length ≤ 100000000
        simp only [List.nil_append]
        omega))
      rw [show (Frm.more ⟨⟨0, 0, false⟩, false, []⟩ (wrapS (tagOf 16) (wholesN n).flatten)).b = R from by rw [hR]; rfl] at HB
      have HR := Lib.hid hR
      have HF4 := Lib.hid (HFF.out.trans' F4 (fun k hk e => by omega))
      clear S4 F4 HSH hR
      go_wp2_with fail
      refine HB.out.mono ?_
      rintro e w5 ⟨⟨aR, cR, rfl, hown⟩, F5⟩
      have HOW := Lib.hid (own_le hown HF4.out.size)
      have HF5 := Lib.hid (HF4.out.trans F5)
      clear hown F5 HB
      go_wp2_with fail
      refine bodyPost_ret (v := .tuple #[.slice aR R.length cR, .int .i64 0]) (by simp [results, Tryz.results11, go_sem]) rfl ⟨⟨aR, cR, ?_, ?_⟩, HF5.out⟩
      · rw [HR.out]
      · rw [← HR.out]
        exact HOW.out
end Go.Proofs.YtacekpdjapgfcaaGreatDoor
