/-
  Merged by program: XGenRd XR15R.
-/
import Derived.Test.YtacekpdjapgfcaaGreatDoorD0aq
import Derived.Test.YtacekpdjapgfcaaGreatDoorD0ap
import Derived.Test.YtacekpdjapgfcaaGreatDoorD0ao
import Derived.Deep.CutBlock
import Derived.Deep.CutRange
import Derived.Deep.Cut
namespace Go.Q
open Go Go.RowKit
theorem nameParse_few {l : List UInt8} {n : List (List Part)} (h : nameParseS l = .ok n) (hl : l.length ≤ 10000000) : nameOk n = true ∧ ∀ r ∈ n, fewB r := by
  obtain ⟨h1, h2⟩ := nameParse_back h
  obtain ⟨-, h3⟩ := whole_part h1 (m := 10000000) (by rw [h2]; exact hl)
  exact ⟨h1, h3⟩
end Go.Q
namespace Go.Proofs.YtacekpdjapgfcaaGreatDoor
open Go Go.RowKit Go.Q
set_option linter.unusedSimpArgs false
def genOut (w w' : World) (c : Nat) (K : Nat → Prop) (bs : List UInt8) (p : Nat) (r : Except Int (Gen × Nat)) (e : Ending) : Prop :=
  match r with
  | .ok (g, m) => ∃ ab cb an cn, e = .returned (.tuple #[.agg #[.int .i64 g.k, .slice ab g.b.length cb, .slice an g.n.length cn], .int .i64 0]) ∧ Kept (fun W => Bytes W (.slice ab g.b.length cb) g.b ∧ NameAt W (.slice an g.n.length cn) g.n) (fun k => k < w.heap.size) w' ∧ CurAt w' c K bs (p + m)
  | .error x => e = .returned (.tuple #[.agg #[.int .i64 0, .slice none 0 0, .slice none 0 0], .int .i64 x]) ∧ x ≠ 0 ∧ ∃ q, p ≤ q ∧ CurAt w' c K bs q
theorem bytes_nil (K : Nat → Prop) (w : World) : Kept (fun W => Bytes W (.slice none 0 0) []) K w := fun W _ => Vals.nil W
theorem name_nil (K : Nat → Prop) (w : World) : Kept (fun W => NameAt W (.slice none 0 0) []) K w := fun _ _ => ⟨none, 0, rfl, Nat.le_refl _, Nat.zero_le _, fun h => absurd h (Nat.lt_irrefl _)⟩
set_option maxRecDepth 20000 in
set_option maxHeartbeats 8000000 in
theorem genR_any {w : World} {c : Nat} {K : Nat → Prop} {bs : List UInt8} {p : Nat} (h : CurAt w c K bs p) (hbs : bs.length ≤ 10000000) :
    Calls Tryz.prog 72 #[pt c] w fun e w' => genOut w w' c K bs p (genReadS (bs.drop p)) e ∧ Fr (fun k => k = c) w w' := by
  have hcl := h.lt
  obtain ⟨z, hz⟩ : ∃ z, z = w.heap.size := ⟨_, rfl⟩
  have F0 : Fr (fun _ => False) w (w.alloc (.cells #[.int .i64 0, .slice none 0 0, .slice none 0 0] 42)) := (Fr.refl w).alloc _
  have B0 := Blk.new w 42 #[.int .i64 0, .slice none 0 0, .slice none 0 0]
  have H := Lib.hid (h.step (K' := fun k => K k ∨ w.heap.size ≤ k) F0 (fun _ _ h => h.elim) (fun _ h => h))
  rw [← hz] at B0
  have hzc : z ≠ c := by omega
  have HZ := Lib.hid hz
  clear h hz
  go_enter Tryz.func72, Tryz.ntmps72
  go_upto_region 1 with fail
  rw [← HZ.out]
  generalize (w.alloc (.cells #[.int .i64 0, .slice none 0 0, .slice none 0 0] 42)) = w0 at *
  have HB0 := Lib.hid B0
  have HF0 := Lib.hid (F0.mono (T := fun k => k = c) (fun _ _ h => h.elim))
  have hs0 := F0.size
  have HRD := Lib.hid (headRead_any H.out)
  clear F0 B0 H
  go_wp2_with fail
  refine HRD.out.mono ?_
  rintro e w1 ⟨⟨⟨tc, tn, tm⟩, n, x, rfl, ht⟩, C1, F1⟩
  rw [show tagV ⟨tc, tn, tm⟩ = .agg #[.int .i64 tc, .int .i64 tn, .bool tm] from rfl]
  obtain ⟨y, hy⟩ : ∃ y, y = w1.heap.size := ⟨_, rfl⟩
  have F2 : Fr (fun _ => False) w1 (w1.alloc (.cells #[.int .i64 tc, .int .i64 tn, .bool tm] 97)) := (Fr.refl w1).alloc _
  have BZ := (HB0.out.fr F1 hzc).fr F2 (fun h => h)
  have BY := Blk.new w1 97 #[.int .i64 tc, .int .i64 tn, .bool tm]
  rw [← hy] at BY
  have hs1 := F1.size
  have hzy : z ≠ y := by have := (HB0.out.fr F1 hzc).lt; omega
  have hyw : w.heap.size ≤ y := by omega
  have hyc : y ≠ c := by omega
  have HC2 := Lib.hid (C1.old F2)
  have HF2 := Lib.hid ((HF0.out.trans F1).trans (F2.mono (T := fun k => k = c) (fun _ _ h => h.elim)))
  have HT := Lib.hid ht
  have hs2 := F2.size
  clear C1 F1 F2 ht HRD HF0 HB0
  go_upto_region 2 with fail
  rw [← hy]
  have HY := Lib.hid hy
  clear hy
  generalize (w1.alloc (.cells #[.int .i64 tc, .int .i64 tn, .bool tm] 97)) = w2 at *
  have HBZ := Lib.hid BZ
  have HBY := Lib.hid BY
  clear BZ BY
  have endK : ∀ (W : World) (q : Nat), CurAt W c (fun k => K k ∨ w.heap.size ≤ k) bs q → CurAt W c K bs q := fun W q C => C.step (K' := K) (Fr.refl W) (S := fun _ => False) (fun _ _ h => h.elim) (fun k hk => .inl (.inl hk))
  have EK := Lib.hid endK
  clear endK
  have errs : ∀ (W : World) (x : Int) (q : Nat), Blk W z 42 #[.int .i64 0, .slice none 0 0, .slice none 0 0] → CurAt W c (fun k => K k ∨ w.heap.size ≤ k) bs q → p ≤ q → Fr (fun k => k = c) w W → x ≠ 0 → genReadS (bs.drop p) = .error x →
      ∃ W', W' = (((W.setCell ⟨z, 0, none⟩ (.int .i64 0)).setCell ⟨z, 1, none⟩ (.slice none 0 0)).setCell ⟨z, 2, none⟩ (.slice none 0 0)) ∧ Blk W' z 42 #[.int .i64 0, .slice none 0 0, .slice none 0 0] ∧ genOut w W' c K bs p (genReadS (bs.drop p)) (.returned (.tuple #[.agg #[.int .i64 0, .slice none 0 0, .slice none 0 0], .int .i64 x])) ∧ Fr (fun k => k = c) w W' := by
    intro W x q B C hq F hx hr
    obtain ⟨B5, F5⟩ := set3 B (.int .i64 0) (.slice none 0 0) (.slice none 0 0)
    refine ⟨_, rfl, B5, ?_, F.trans' F5 (fun i hi e => by have := HZ.out; omega)⟩
    rw [hr]
    exact ⟨rfl, hx, q, hq, EK.out _ _ (C.step (K' := fun k => K k ∨ w.heap.size ≤ k) F5 (fun k _ e => .inr (by have := HZ.out; omega)) (fun _ h => .inl h))⟩
  have ERR := Lib.hid errs
  clear errs
  cases hr : readS (bs.drop p) with
  | error e0 =>
    have ht := HT.out
    have hc := HC2.out
    rw [hr] at ht hc
    have hx : x = e0 := ht
    subst hx
    have hx0 := readS_err hr
    have hx1 : (x == 0) = false := beq_eq_false_iff_ne.2 hx0
    have hx2 : (x != 0) = true := by simpa using hx0
    obtain ⟨W', hW, B5, ho, F5⟩ := ERR.out w2 x p HBZ.out hc (Nat.le_refl _) HF2.out hx0 (genRead_err hr)
    have z0 := HBZ.out.cell 0
    have z1 := HBZ.out.cell 1
    have z2 := HBZ.out.cell 2
    have f0 := HBZ.out.frozen 0
    have f1 := HBZ.out.frozen 1
    have f2 := HBZ.out.frozen 2
    subst hW
    have n0 := B5.cell 0
    have n1 := B5.cell 1
    have n2 := B5.cell 2
    simp only [List.getElem?_toArray, List.getElem?_cons_succ, List.getElem?_cons_zero] at z0 z1 z2 n0 n1 n2
    have HO := Lib.hid (And.intro ho F5)
    clear hr hc hx0 B5 ho F5 HT HC2
    go_wp2_with fail
    exact bodyPost_ret (v := .tuple #[.agg #[.int .i64 0, .slice none 0 0, .slice none 0 0], .int .i64 x]) (by simp [results, Tryz.results72, go_sem, n0, n1, n2]) rfl HO.out
  | ok tnk =>
    obtain ⟨t, n', k⟩ := tnk
    have ht := HT.out
    have hc := HC2.out
    rw [hr] at ht hc
    obtain ⟨rfl, rfl, rfl⟩ : ⟨tc, tn, tm⟩ = t ∧ n = n' ∧ x = 0 := ht
    replace hc : CurAt w2 c (fun k => K k ∨ w.heap.size ≤ k) bs (p + k) := hc
    have hkl := readS_le hr
    rw [List.length_drop] at hkl
    have HC2 := Lib.hid hc
    have HR := Lib.hid hr
    have hn16 := hkl.2
    have hk1 := hkl.1
    clear hc HT hr hkl
    obtain ⟨mk, hmk⟩ : ∃ mk, mk = madeG tn := ⟨_, rfl⟩
    have HMK := Lib.hid hmk
    have HMD := Lib.hid (fun w => made_any tn w)
    rw [← hmk] at HMD
    clear hmk
    have e0 := HBY.out.cell 0
    have e1 := HBY.out.cell 1
    have e2 := HBY.out.cell 2
    simp only [List.getElem?_toArray, List.getElem?_cons_succ, List.getElem?_cons_zero] at e0 e1 e2
    by_cases hbad : tc ≠ 2 ∨ 8 < tn ∨ tm ≠ mk
    · have hbad2 : tc ≠ 2 ∨ 8 < tn ∨ tm ≠ madeG tn := by rw [← HMK.out]; exact hbad
      have herr := genRead_tag HR.out hbad2
      have HERR := Lib.hid herr
      have hthree : ((tc == 2) = false ∧ (tc != 2) = true) ∨ (tc = 2 ∧ (8 : Int) < tn) ∨ (tc = 2 ∧ ¬ (8 : Int) < tn ∧ tm ≠ mk) := by
        by_cases h2 : tc = 2
        · by_cases h8 : 8 < tn
          · exact .inr (.inl ⟨h2, h8⟩)
          · exact .inr (.inr ⟨h2, h8, by rcases hbad with h | h | h; exact absurd h2 h; exact absurd h h8; exact h⟩)
        · exact .inl ⟨beq_eq_false_iff_ne.2 h2, by simpa using h2⟩
      clear herr hbad hbad2
      rcases hthree with ⟨h1, h2⟩ | ⟨rfl, h2⟩ | ⟨rfl, h2, h3⟩
      case' inr.inr =>
        have h4 : (tm == mk) = false := by cases tm <;> cases mk <;> simp_all
        have h5 : (tm != mk) = true := by cases tm <;> cases mk <;> simp_all
      all_goals
        go_upto_region 4 with fail
        go_quiet ((go_at_call 120; exact Calls.quiet_of_same ((HMD.out _).mono (fun _ _ ⟨h1, h2⟩ => ⟨h1, h2.symm⟩))))
        have FQ : Fr (fun _ => False) w2 (w2.drewN nq) := (Fr.refl w2).drewN nq
        obtain ⟨W', hW, B5, ho, F5⟩ := ERR.out (w2.drewN nq) 4 (p + k) (HBZ.out.fr FQ (fun h => h)) (HC2.out.old FQ) (Nat.le_add_right _ _) (HF2.out.trans (FQ.mono (fun _ _ h => h.elim))) (by decide) HERR.out
        have BQ := HBZ.out.fr FQ (fun h => h)
        have z0 := BQ.cell 0
        have z1 := BQ.cell 1
        have z2 := BQ.cell 2
        have f0 := BQ.frozen 0
        have f1 := BQ.frozen 1
        have f2 := BQ.frozen 2
        subst hW
        have n0 := B5.cell 0
        have n1 := B5.cell 1
        have n2 := B5.cell 2
        simp only [List.getElem?_toArray, List.getElem?_cons_succ, List.getElem?_cons_zero] at z0 z1 z2 n0 n1 n2
        have HO := Lib.hid (And.intro ho F5)
        clear B5 ho F5 BQ FQ
        go_wp2_with fail
        exact bodyPost_ret (v := .tuple #[.agg #[.int .i64 0, .slice none 0 0, .slice none 0 0], .int .i64 4]) (by simp [results, Tryz.results72, go_sem, n0, n1, n2]) rfl HO.out
    · obtain ⟨rfl, h8, rfl⟩ : tc = 2 ∧ ¬ (8 : Int) < tn ∧ tm = mk := ⟨Classical.byContradiction fun h => hbad (.inl h), fun h => hbad (.inr (.inl h)), Classical.byContradiction fun h => hbad (.inr (.inr h))⟩
      have hgood : ¬ ((2 : Int) ≠ 2 ∨ 8 < tn ∨ tm ≠ madeG tn) := by
        rintro (h | h | h)
        · exact h rfl
        · exact h8 h
        · exact h HMK.out
      have HGD := Lib.hid hgood
      have h4 : (tm == tm) = true := by cases tm <;> rfl
      have h5 : (tm != tm) = false := by cases tm <;> rfl
      clear hbad hgood
      go_upto_region 4 with fail
      go_quiet ((go_at_call 120; exact Calls.quiet_of_same ((HMD.out _).mono (fun _ _ ⟨h1, h2⟩ => ⟨h1, h2.symm⟩))))
      have FQ : Fr (fun _ => False) w2 (w2.drewN nq) := (Fr.refl w2).drewN nq
      have HBZ2 := Lib.hid (HBZ.out.fr FQ (fun h => h))
      have HBY2 := Lib.hid (HBY.out.fr FQ (fun h => h))
      have HC3 := Lib.hid (HC2.out.old FQ)
      have HF3 := Lib.hid (HF2.out.trans (FQ.mono (T := fun k => k = c) (fun _ _ h => h.elim)))
      have hs3 := FQ.size
      clear FQ HBZ HBY HC2 HF2 e0 e1 e2
      generalize w2.drewN nq = w3 at *
      by_cases hn : n ≤ bs.length - (p + k)
      · have HTK := Lib.hid (take_ok HC3.out n hn)
        obtain ⟨l, hl⟩ : ∃ l, l = (bs.drop (p + k)).take n := ⟨_, rfl⟩
        have hll : l.length = n := by rw [hl, List.length_take, List.length_drop]; omega
        have hl2 : ((bs.drop p).drop k).take n = l := by rw [hl, List.drop_drop]
        rw [← hl] at HTK
        have hend : ¬ (bs.drop p).length - k < n := by rw [List.length_drop]; omega
        have HEND := Lib.hid hend
        have HL2 := Lib.hid hl2
        have HLL := Lib.hid hll
        clear hl hl2 hll hend
        go_wp2_with fail
        refine HTK.out.mono ?_
        rintro e w4 ⟨v, rfl, ho, C4, F4⟩
        have hvl := (Vals.of_own ho).2
        have hkb : Kept (fun W => Bytes W v l) (fun k => k < w3.heap.size) w4 := own_kept ho _ (fun k hk => hk)
        obtain ⟨av, m, cv, rfl, hmn⟩ := own_shape ho
        have hmn2 : n = m := by omega
        subst hmn2
        clear hmn
        have HKB := Lib.hid hkb
        have HVL := Lib.hid hvl
        have hb4 := (Vals.of_own ho).1
        have hs4 := F4.size
        have BZ4 := HBZ2.out.fr F4 hzc
        have BY4 := HBY2.out.fr F4 hyc
        obtain ⟨x8, hx8⟩ : ∃ x8, x8 = w4.heap.size := ⟨_, rfl⟩
        have F5 : Fr (fun _ => False) w4 (w4.alloc (.cells #[.int .i64 tn, .slice av n cv, .slice none 0 0] 42)) := (Fr.refl w4).alloc _
        have HBX := Lib.hid (Blk.new w4 42 #[.int .i64 tn, .slice av n cv, .slice none 0 0])
        rw [← hx8] at HBX
        have hxz : z ≠ x8 := by have := BZ4.lt; omega
        have hxc : x8 ≠ c := by have := C4.lt; omega
        have hxw : w.heap.size ≤ x8 := by omega
        have HBZ5 := Lib.hid (BZ4.fr F5 (fun h => h))
        have HC5 := Lib.hid (C4.old F5)
        have HF5 := Lib.hid ((HF3.out.trans F4).trans (F5.mono (T := fun k => k = c) (fun _ _ h => h.elim)))
        have HKB5 := Lib.hid (HKB.out.old F5)
        have HB5 := Lib.hid (hb4.old F5)
        have hz3 : z < w3.heap.size := HBZ2.out.lt
        have e1 := BY4.cell 1
        simp only [List.getElem?_toArray, List.getElem?_cons_succ, List.getElem?_cons_zero] at e1
        have hs5 := F5.size
        clear ho C4 F4 F5 BZ4 BY4 hkb hvl hb4 HTK HC3 HF3 HBZ2 HBY2 HKB
        go_upto_region 10 with fail
        rw [← hx8]
        have HX8 := Lib.hid hx8
        clear hx8 e1
        generalize (w4.alloc (.cells #[.int .i64 tn, .slice av n cv, .slice none 0 0] 42)) = w5 at *
        by_cases h4n : tn = 4
        · subst h4n
          have HGR := Lib.hid (genRead_dir HR.out HGD.out HEND.out rfl)
          rw [HL2.out] at HGR
          have x0 := HBX.out.cell 0
          have x1 := HBX.out.cell 1
          have g1 := HBX.out.frozen 1
          simp only [List.getElem?_toArray, List.getElem?_cons_succ, List.getElem?_cons_zero] at x0 x1
          have B6 : Blk (w5.setCell ⟨x8, 1, none⟩ (.slice none 0 0)) x8 42 #[.int .i64 4, .slice none 0 0, .slice none 0 0] := by
            have := HBX.out.set 1 (.slice none 0 0)
            simpa using this
          have F6 : Fr (fun k => k = x8) w5 (w5.setCell ⟨x8, 1, none⟩ (.slice none 0 0)) := Fr.setCell (S := fun k => k = x8) (p := ⟨x8, 1, none⟩) (Fr.refl w5) (fun _ => rfl) _
          have HB6 := Lib.hid B6
          have HBZ6 := Lib.hid (HBZ5.out.fr F6 hxz)
          have HC6 := Lib.hid (HC5.out.step (K' := fun k => K k ∨ w.heap.size ≤ k) F6 (fun k _ e => .inr (by omega)) (fun _ h => .inl h))
          have HF6 := Lib.hid (HF5.out.trans' F6 (fun i hi e => absurd hi (by omega)))
          have hs6 := F6.size
          have HXL := Lib.hid (show x8 < (w5.setCell ⟨x8, 1, none⟩ (.slice none 0 0)).heap.size from B6.lt)
          have hb6 := HB5.out.fr F6 (fun _ k hk e => by have := HVL.out k hk; have := HX8.out; omega)
          have HPA := Lib.hid (nameParse_any _ l _ hb6 (by have := HLL.out; omega))
          clear B6 F6 HC5 HF5 HBZ5 HBX hb6 HB5 HKB5
          go_wp2_with fail
          refine HPA.out.mono ?_
          rintro e w7 ⟨hout, F7⟩
          have hs7 := F7.size
          have HB7 := HB6.out.fr F7 (fun h => h)
          have HBZ7 := Lib.hid (HBZ6.out.fr F7 (fun h => h))
          have HC7 := Lib.hid (HC6.out.old F7)
          have HF7 := Lib.hid (HF6.out.trans (F7.mono (T := fun k => k = c) (fun _ _ h => h.elim)))
          clear F7 HPA HB6 HBZ6 HC6 HF6 x0 x1 g1
          unfold nameParseOut at hout
          cases hq : nameParseS l with
          | error x =>
            rw [hq] at hout HGR
            obtain ⟨rfl, hx⟩ := hout
            have hx1 : (x == 0) = false := beq_eq_false_iff_ne.2 hx
            have hx2 : (x != 0) = true := by simpa using hx
            have B8 : Blk (w7.setCell ⟨x8, 2, none⟩ (.slice none 0 0)) x8 42 #[.int .i64 4, .slice none 0 0, .slice none 0 0] := by
              have := HB7.set 2 (.slice none 0 0)
              simpa using this
            have F8 : Fr (fun k => k = x8) w7 (w7.setCell ⟨x8, 2, none⟩ (.slice none 0 0)) := Fr.setCell (S := fun k => k = x8) (p := ⟨x8, 2, none⟩) (Fr.refl w7) (fun _ => rfl) _
            have HBZ8 := Lib.hid (HBZ7.out.fr F8 hxz)
            have HC8 := Lib.hid (HC7.out.step (K' := fun k => K k ∨ w.heap.size ≤ k) F8 (fun k _ e => .inr (by omega)) (fun _ h => .inl h))
            have HF8 := Lib.hid (HF7.out.trans' F8 (fun i hi e => absurd hi (by omega)))
            have x2 := HB7.cell 2
            have g2 := HB7.frozen 2
            simp only [List.getElem?_toArray, List.getElem?_cons_succ, List.getElem?_cons_zero] at x2
            have HX := Lib.hid hx
            clear B8 F8 HB7 HBZ7 HC7 HF7 hq hx
            go_upto_region 13 with fail
            generalize (w7.setCell ⟨x8, 2, none⟩ (.slice none 0 0)) = w8 at *
            obtain ⟨W', hW, B5, ho, F5⟩ := ERR.out w8 x (p + k + n) HBZ8.out HC8.out (by omega) HF8.out HX.out HGR.out
            have z0 := HBZ8.out.cell 0
            have z1 := HBZ8.out.cell 1
            have z2 := HBZ8.out.cell 2
            have f0 := HBZ8.out.frozen 0
            have f1 := HBZ8.out.frozen 1
            have f2 := HBZ8.out.frozen 2
            subst hW
            have n0 := B5.cell 0
            have n1 := B5.cell 1
            have n2 := B5.cell 2
            simp only [List.getElem?_toArray, List.getElem?_cons_succ, List.getElem?_cons_zero] at z0 z1 z2 n0 n1 n2
            have HO := Lib.hid (And.intro ho F5)
            clear B5 ho F5 x2 g2
            go_wp2_with fail
            exact bodyPost_ret (v := .tuple #[.agg #[.int .i64 0, .slice none 0 0, .slice none 0 0], .int .i64 x]) (by simp [results, Tryz.results72, go_sem, n0, n1, n2]) rfl HO.out
          | ok nm =>
            rw [hq] at hout HGR
            obtain ⟨am, cm, rfl, hkn⟩ := hout
            obtain ⟨hok, hfew⟩ := nameParse_few hq (by have := HLL.out; omega)
            have B8 : Blk (w7.setCell ⟨x8, 2, none⟩ (.slice am nm.length cm)) x8 42 #[.int .i64 4, .slice none 0 0, .slice am nm.length cm] := by
              have := HB7.set 2 (.slice am nm.length cm)
              simpa using this
            have F8 : Fr (fun k => k = x8) w7 (w7.setCell ⟨x8, 2, none⟩ (.slice am nm.length cm)) := Fr.setCell (S := fun k => k = x8) (p := ⟨x8, 2, none⟩) (Fr.refl w7) (fun _ => rfl) _
            have HBZ8 := Lib.hid (HBZ7.out.fr F8 hxz)
            have HB8 := Lib.hid B8
            have HC8 := Lib.hid (HC7.out.step (K' := fun k => K k ∨ w.heap.size ≤ k) F8 (fun k _ e => .inr (by omega)) (fun _ h => .inl h))
            have HF8 := Lib.hid (HF7.out.trans' F8 (fun i hi e => absurd hi (by omega)))
            have hx6 := HX8.out
            have HK8 := Lib.hid (hkn.step (K' := fun k => k < w3.heap.size) F8 (fun k _ e => by rw [e]; exact HXL.out) (fun k hk => .inl (by omega)))
            have HGT := Lib.hid (genRight_any (.agg #[.int .i64 4, .slice none 0 0, .slice am nm.length cm]) ⟨4, [], nm⟩ _ ⟨_, _, rfl, Vals.nil _, HK8.out.now⟩ ⟨by simp, hfew⟩)
            have hgok : genOk ⟨4, [], nm⟩ = true := by simp [genOk, hok]
            rw [hgok] at HGT
            have x2 := HB7.cell 2
            have g2 := HB7.frozen 2
            simp only [List.getElem?_toArray, List.getElem?_cons_succ, List.getElem?_cons_zero] at x2
            clear B8 F8 HB7 HBZ7 HC7 HF7 hq hkn hok hfew hgok hx6
            go_upto_region 13 with fail
            generalize (w7.setCell ⟨x8, 2, none⟩ (.slice am nm.length cm)) = w8 at *
            have y0 := HB8.out.cell 0
            have y1 := HB8.out.cell 1
            have y2 := HB8.out.cell 2
            simp only [List.getElem?_toArray, List.getElem?_cons_succ, List.getElem?_cons_zero] at y0 y1 y2
            clear x2 g2
            go_wp2_with fail
            refine HGT.out.mono ?_
            rintro e w9 ⟨rfl, F9⟩
            have BX9 := HB8.out.fr F9 (fun h => h)
            have BZ9 := HBZ8.out.fr F9 (fun h => h)
            clear y0 y1 y2
            have y0 := BX9.cell 0
            have y1 := BX9.cell 1
            have y2 := BX9.cell 2
            have z0 := BZ9.cell 0
            have z1 := BZ9.cell 1
            have z2 := BZ9.cell 2
            have f0 := BZ9.frozen 0
            have f1 := BZ9.frozen 1
            have f2 := BZ9.frozen 2
            obtain ⟨B5, F5⟩ := set3 BZ9 (.int .i64 4) (.slice none 0 0) (.slice am nm.length cm)
            have n0 := B5.cell 0
            have n1 := B5.cell 1
            have n2 := B5.cell 2
            simp only [List.getElem?_toArray, List.getElem?_cons_succ, List.getElem?_cons_zero] at y0 y1 y2 z0 z1 z2 n0 n1 n2
            have HF5 := Lib.hid ((HF8.out.trans (F9.mono (T := fun k => k = c) (fun _ _ h => h.elim))).trans' F5 (fun i hi e => by have := HZ.out; omega))
            have HC5 := Lib.hid (EK.out _ _ ((HC8.out.old F9).step (K' := fun k => K k ∨ w.heap.size ≤ k) F5 (fun k _ e => .inr (by have := HZ.out; omega)) (fun _ h => .inl h)))
            have HK5 := Lib.hid ((HK8.out.old F9).step (K' := fun k => k < w.heap.size) F5 (fun k _ e => by omega) (fun k hk => .inl (by omega)))
            clear B5 F5 BZ9 BX9 F9 HGT HK8 HC8 HF8
            go_wp2_with fail
            refine bodyPost_ret (v := .tuple #[.agg #[.int .i64 4, .slice none 0 0, .slice am nm.length cm], .int .i64 0]) (by simp [results, Tryz.results72, go_sem, n0, n1, n2]) rfl ⟨?_, HF5.out⟩
            rw [HGR.out]
            exact ⟨none, 0, am, cm, rfl, fun W f => ⟨Vals.nil W, HK5.out W f⟩, by rw [show p + (k + n) = p + k + n by omega]; exact HC5.out⟩
        · have k4 : (tn == 4) = false := beq_eq_false_iff_ne.2 h4n
          have HGR := genRead_on HR.out HGD.out HEND.out h4n
          rw [HL2.out] at HGR
          have hgo : genOk ⟨tn, l, []⟩ = contB tn l := by unfold genOk; rw [if_neg h4n]; simp
          have HGT := Lib.hid (genRight_any (.agg #[.int .i64 tn, .slice av n cv, .slice none 0 0]) ⟨tn, l, []⟩ _ ⟨_, _, rfl, HB5.out, (name_nil (fun _ => True) _).now⟩ ⟨by have := HLL.out; show l.length ≤ _; omega, by simp⟩)
          rw [hgo] at HGT
          have HGRR := Lib.hid HGR
          have x0 := HBX.out.cell 0
          have x1 := HBX.out.cell 1
          have x2 := HBX.out.cell 2
          simp only [List.getElem?_toArray, List.getElem?_cons_succ, List.getElem?_cons_zero] at x0 x1 x2
          clear HGR hgo h4n
          obtain ⟨cb, hcb⟩ : ∃ cb, cb = contB tn l := ⟨_, rfl⟩
          rw [← hcb] at HGT HGRR
          clear hcb
          go_wp2_with fail
          refine HGT.out.mono ?_
          rintro e w9 ⟨rfl, F9⟩
          have BX9 := HBX.out.fr F9 (fun h => h)
          have BZ9 := HBZ5.out.fr F9 (fun h => h)
          have HC9 := Lib.hid (HC5.out.old F9)
          have HF9 := Lib.hid (HF5.out.trans (F9.mono (T := fun k => k = c) (fun _ _ h => h.elim)))
          have HK9 := Lib.hid (HKB5.out.old F9)
          clear x0 x1 x2 F9 HC5 HF5 HKB5 HB5 HGT
          have z0 := BZ9.cell 0
          have z1 := BZ9.cell 1
          have z2 := BZ9.cell 2
          have f0 := BZ9.frozen 0
          have f1 := BZ9.frozen 1
          have f2 := BZ9.frozen 2
          simp only [List.getElem?_toArray, List.getElem?_cons_succ, List.getElem?_cons_zero] at z0 z1 z2
          cases cb with
          | false =>
            obtain ⟨W', hW, B5, ho, F5⟩ := ERR.out w9 6 (p + k + n) BZ9 HC9.out (by omega) HF9.out (by decide) (HGRR.out.trans (if_neg Bool.false_ne_true))
            subst hW
            have n0 := B5.cell 0
            have n1 := B5.cell 1
            have n2 := B5.cell 2
            simp only [List.getElem?_toArray, List.getElem?_cons_succ, List.getElem?_cons_zero] at n0 n1 n2
            have HO := Lib.hid (And.intro ho F5)
            clear B5 ho F5 BX9 BZ9
            go_wp2_with fail
            exact bodyPost_ret (v := .tuple #[.agg #[.int .i64 0, .slice none 0 0, .slice none 0 0], .int .i64 6]) (by simp [results, Tryz.results72, go_sem, n0, n1, n2]) rfl HO.out
          | true =>
            have HGE := Lib.hid (HGRR.out.trans (if_pos rfl))
            have y0 := BX9.cell 0
            have y1 := BX9.cell 1
            have y2 := BX9.cell 2
            obtain ⟨B5, F5⟩ := set3 BZ9 (.int .i64 tn) (.slice av n cv) (.slice none 0 0)
            have n0 := B5.cell 0
            have n1 := B5.cell 1
            have n2 := B5.cell 2
            simp only [List.getElem?_toArray, List.getElem?_cons_succ, List.getElem?_cons_zero] at y0 y1 y2 n0 n1 n2
            have HF5 := Lib.hid (HF9.out.trans' F5 (fun i hi e => by have := HZ.out; omega))
            have HC5 := Lib.hid (EK.out _ _ (HC9.out.step (K' := fun k => K k ∨ w.heap.size ≤ k) F5 (fun k _ e => .inr (by have := HZ.out; omega)) (fun _ h => .inl h)))
            have HK5 := Lib.hid (HK9.out.step (K' := fun k => k < w.heap.size) F5 (fun k _ e => by omega) (fun k hk => .inl (by omega)))
            clear B5 F5 BZ9 BX9 HK9 HC9 HF9 HGRR
            go_wp2_with fail
            refine bodyPost_ret (v := .tuple #[.agg #[.int .i64 tn, .slice av n cv, .slice none 0 0], .int .i64 0]) (by simp [results, Tryz.results72, go_sem, n0, n1, n2]) rfl ⟨?_, HF5.out⟩
            rw [HGE.out]
            refine ⟨av, cv, none, 0, by rw [HLL.out]; rfl, fun W f => ⟨by rw [HLL.out]; exact HK5.out W f, (name_nil (fun _ => True) W).now⟩, by rw [show p + (k + n) = p + k + n by omega]; exact HC5.out⟩
      · have hend : (bs.drop p).length - k < n := by rw [List.length_drop]; omega
        have HGR := Lib.hid (genRead_end HR.out HGD.out hend)
        have HTK := Lib.hid (take_end HC3.out n (by omega))
        clear hend hn
        go_wp2_with fail
        refine HTK.out.mono ?_
        rintro e w4 ⟨rfl, F4⟩
        obtain ⟨W', hW, B5, ho, F5⟩ := ERR.out w4 3 (p + k) (HBZ2.out.fr F4 (fun h => h)) (HC3.out.old F4) (by omega) (HF3.out.trans (F4.mono (fun _ _ h => h.elim))) (by decide) HGR.out
        have BQ := HBZ2.out.fr F4 (fun h => h)
        have z0 := BQ.cell 0
        have z1 := BQ.cell 1
        have z2 := BQ.cell 2
        have f0 := BQ.frozen 0
        have f1 := BQ.frozen 1
        have f2 := BQ.frozen 2
        subst hW
        have n0 := B5.cell 0
        have n1 := B5.cell 1
        have n2 := B5.cell 2
        simp only [List.getElem?_toArray, List.getElem?_cons_succ, List.getElem?_cons_zero] at z0 z1 z2 n0 n1 n2
        have HO := Lib.hid (And.intro ho F5)
        clear B5 ho F5 BQ F4 HTK
        go_wp2_with fail
        exact bodyPost_ret (v := .tuple #[.agg #[.int .i64 0, .slice none 0 0, .slice none 0 0], .int .i64 3]) (by simp [results, Tryz.results72, go_sem, n0, n1, n2]) rfl HO.out
end Go.Proofs.YtacekpdjapgfcaaGreatDoor

namespace Go.Proofs.YtacekpdjapgfcaaGreatDoor
open Go Go.RowKit Go.Q
set_option linter.unusedSimpArgs false
theorem nameParseNz {l : List UInt8} {x : Int} (h : nameParseS l = .error x) : x ≠ 0 := by
  unfold nameParseS at h
  split at h
  · rename_i e he
    simp only [Except.error.injEq] at h
    subst h
    exact nameRead_nz he
  · split at h
    · simp only [Except.error.injEq] at h
      subst h
      decide
    · cases h
def rGenOut (K : Nat → Prop) (w' : World) (p : Nat) (r : Except Int (Gen × Nat)) (e : Ending) : Prop :=
  match r with
  | .error x => e = .returned (.tuple #[.agg #[.int .i64 0, .slice none 0 0, .slice none 0 0], .int .i64 p, .int .i64 x])
  | .ok (g, k) => ∃ ab cb an cn, e = .returned (.tuple #[.agg #[.int .i64 g.k, .slice ab g.b.length cb, .slice an g.n.length cn], .int .i64 ((p + k : Nat) : Int), .int .i64 0]) ∧ Kept (fun W => Bytes W (.slice ab g.b.length cb) g.b ∧ NameAt W (.slice an g.n.length cn) g.n) K w'
set_option maxRecDepth 20000 in
set_option maxHeartbeats 8000000 in
theorem r15Read_any (v : Value) (l : List UInt8) (p : Nat) (K : Nat → Prop) (w : World) (h : Kept (fun W => Bytes W v l) K w) (hK : ∀ k, K k → k < w.heap.size) (hp : p ≤ l.length) (hlm : l.length ≤ 10000000) :
    Calls Tryz.prog 20 #[v, .int .i64 p] w fun e w' => rGenOut K w' p (genReadS (l.drop p)) e ∧ Fr (fun _ => False) w w' := by
  obtain ⟨av, cap, rfl, hcap, hcm, -⟩ := h.now.form
  have hcm2 : cap ≤ 9223372036854775807 := by unfold maxLen at hcm; omega
  obtain ⟨z, hz⟩ : ∃ z, z = w.heap.size := ⟨_, rfl⟩
  have F0 : Fr (fun _ => False) w (w.alloc (.cells #[.int .i64 0, .slice none 0 0, .slice none 0 0] 46)) := (Fr.refl w).alloc _
  have B0 := Blk.new w 46 #[.int .i64 0, .slice none 0 0, .slice none 0 0]
  rw [← hz] at B0
  have HZ := Lib.hid hz
  have HR := Lib.hid (r02Read_any _ l p _ (h.now.old F0) hp (by omega))
  have HH := Lib.hid h
  have HKK := Lib.hid hK
  clear h hz hK hcm
  go_enter Tryz.func20, Tryz.ntmps20
  go_upto_region 1 with fail
  rw [← HZ.out]
  generalize (w.alloc (.cells #[.int .i64 0, .slice none 0 0, .slice none 0 0] 46)) = w0 at *
  have HB0 := Lib.hid B0
  have HF0 := Lib.hid F0
  clear F0 B0
  go_wp2_with fail
  refine HR.out.mono ?_
  rintro e w1 ⟨rfl, F1⟩
  have HF1 := Lib.hid (HF0.out.trans F1)
  have HB1 := Lib.hid (HB0.out.fr F1 (fun h => h))
  have hs1 := HF1.out.size
  clear F1 HB0 HF0 HR
  have errs : ∀ (W : World) (x : Int), Blk W z 46 #[.int .i64 0, .slice none 0 0, .slice none 0 0] → Fr (fun _ => False) w W → genReadS (l.drop p) = .error x →
      ∃ W', W' = (((W.setCell ⟨z, 0, none⟩ (.int .i64 0)).setCell ⟨z, 1, none⟩ (.slice none 0 0)).setCell ⟨z, 2, none⟩ (.slice none 0 0)) ∧ Blk W' z 46 #[.int .i64 0, .slice none 0 0, .slice none 0 0] ∧ rGenOut K W' p (genReadS (l.drop p)) (.returned (.tuple #[.agg #[.int .i64 0, .slice none 0 0, .slice none 0 0], .int .i64 p, .int .i64 x])) ∧ Fr (fun _ => False) w W' := by
    intro W x B F hr
    obtain ⟨B5, F5⟩ := set3 B (.int .i64 0) (.slice none 0 0) (.slice none 0 0)
    refine ⟨_, rfl, B5, ?_, F.trans' F5 (fun i hi e => by have := HZ.out; omega)⟩
    rw [hr]
    rfl
  have ERR := Lib.hid errs
  clear errs
  cases hr : readS (l.drop p) with
  | error x =>
    have hx : x ≠ 0 := readS_err hr
    have hx1 : (x == 0) = false := beq_eq_false_iff_ne.2 hx
    have hx2 : (x != 0) = true := by simpa using hx
    rw [show rReadV p (.error x) = .tuple #[.agg #[.int .i64 0, .int .i64 0, .bool false], .int .i64 0, .int .i64 p, .int .i64 x] from rfl]
    have F2 : Fr (fun _ => False) w1 (w1.alloc (.cells #[.int .i64 0, .int .i64 0, .bool false] 86)) := (Fr.refl w1).alloc _
    have HB2 := Lib.hid (HB1.out.fr F2 (fun h => h))
    have HF2 := Lib.hid (HF1.out.trans F2)
    have HX := Lib.hid (genRead_err hr)
    clear hr hx F2
    go_upto_region 2 with fail
    generalize (w1.alloc (.cells #[.int .i64 0, .int .i64 0, .bool false] 86)) = w2 at *
    obtain ⟨W', hW, B5, ho, F5⟩ := ERR.out w2 x HB2.out HF2.out HX.out
    have z0 := HB2.out.cell 0
    have z1 := HB2.out.cell 1
    have z2 := HB2.out.cell 2
    have f0 := HB2.out.frozen 0
    have f1 := HB2.out.frozen 1
    have f2 := HB2.out.frozen 2
    subst hW
    have n0 := B5.cell 0
    have n1 := B5.cell 1
    have n2 := B5.cell 2
    simp only [List.getElem?_toArray, List.getElem?_cons_succ, List.getElem?_cons_zero] at z0 z1 z2 n0 n1 n2
    have HO := Lib.hid (And.intro ho F5)
    clear B5 ho F5
    go_wp2_with fail
    exact bodyPost_ret (v := .tuple #[.agg #[.int .i64 0, .slice none 0 0, .slice none 0 0], .int .i64 p, .int .i64 x]) (by simp [results, Tryz.results20, go_sem, n0, n1, n2]) rfl HO.out
  | ok tnk =>
    obtain ⟨⟨tc, tn, tm⟩, n, k⟩ := tnk
    rw [show rReadV p (.ok (⟨tc, tn, tm⟩, n, k)) = .tuple #[.agg #[.int .i64 tc, .int .i64 tn, .bool tm], .int .i64 n, .int .i64 ((p + k : Nat) : Int), .int .i64 0] from rfl]
    have hkl := readS_le hr
    rw [List.length_drop] at hkl
    have hk1 := hkl.1
    have hn16 := hkl.2
    have HRD := Lib.hid hr
    obtain ⟨s, hs⟩ : ∃ s, s = p + k := ⟨_, rfl⟩
    rw [← hs]
    have hsl : s ≤ l.length := by omega
    have HS := Lib.hid hs
    obtain ⟨y, hy⟩ : ∃ y, y = w1.heap.size := ⟨_, rfl⟩
    have F2 : Fr (fun _ => False) w1 (w1.alloc (.cells #[.int .i64 tc, .int .i64 tn, .bool tm] 86)) := (Fr.refl w1).alloc _
    have HB2 := Lib.hid (HB1.out.fr F2 (fun h => h))
    have BY := Blk.new w1 86 #[.int .i64 tc, .int .i64 tn, .bool tm]
    rw [← hy] at BY
    have HF2 := Lib.hid (HF1.out.trans F2)
    have HY := Lib.hid hy
    clear hr hkl hs F2 HB1 HF1 hy hk1
    go_upto_region 2 with fail
    rw [← HY.out]
    generalize (w1.alloc (.cells #[.int .i64 tc, .int .i64 tn, .bool tm] 86)) = w2 at *
    have HBY := Lib.hid BY
    have e0 := BY.cell 0
    have e1 := BY.cell 1
    have e2 := BY.cell 2
    simp only [List.getElem?_toArray, List.getElem?_cons_succ, List.getElem?_cons_zero] at e0 e1 e2
    clear BY
    obtain ⟨mk, hmk⟩ : ∃ mk, mk = madeG tn := ⟨_, rfl⟩
    have HMK := Lib.hid hmk
    have HMD := Lib.hid (fun w => r15made_any tn w)
    rw [← hmk] at HMD
    clear hmk
    by_cases hbad : tc ≠ 2 ∨ 8 < tn ∨ tm ≠ mk
    · have hbad2 : tc ≠ 2 ∨ 8 < tn ∨ tm ≠ madeG tn := by rw [← HMK.out]; exact hbad
      have HERR := Lib.hid (genRead_tag HRD.out hbad2)
      have hthree : ((tc == 2) = false ∧ (tc != 2) = true) ∨ (tc = 2 ∧ (8 : Int) < tn) ∨ (tc = 2 ∧ ¬ (8 : Int) < tn ∧ tm ≠ mk) := by
        by_cases h2 : tc = 2
        · by_cases h8 : 8 < tn
          · exact .inr (.inl ⟨h2, h8⟩)
          · exact .inr (.inr ⟨h2, h8, by rcases hbad with h | h | h; exact absurd h2 h; exact absurd h h8; exact h⟩)
        · exact .inl ⟨beq_eq_false_iff_ne.2 h2, by simpa using h2⟩
      clear hbad hbad2
      rcases hthree with ⟨h1, h2⟩ | ⟨rfl, h2⟩ | ⟨rfl, h2, h3⟩
      case' inr.inr =>
        have h4 : (tm == mk) = false := by cases tm <;> cases mk <;> simp_all
        have h5 : (tm != mk) = true := by cases tm <;> cases mk <;> simp_all
      all_goals
        go_upto_region 4 with fail
        go_quiet ((go_at_call 74; exact Calls.quiet_of_same ((HMD.out _).mono (fun _ _ ⟨h1, h2⟩ => ⟨h1, h2.symm⟩))))
        have FQ : Fr (fun _ => False) w2 (w2.drewN nq) := (Fr.refl w2).drewN nq
        obtain ⟨W', hW, B5, ho, F5⟩ := ERR.out (w2.drewN nq) 4 (HB2.out.fr FQ (fun h => h)) (HF2.out.trans FQ) HERR.out
        have BQ := HB2.out.fr FQ (fun h => h)
        have z0 := BQ.cell 0
        have z1 := BQ.cell 1
        have z2 := BQ.cell 2
        have f0 := BQ.frozen 0
        have f1 := BQ.frozen 1
        have f2 := BQ.frozen 2
        subst hW
        have n0 := B5.cell 0
        have n1 := B5.cell 1
        have n2 := B5.cell 2
        simp only [List.getElem?_toArray, List.getElem?_cons_succ, List.getElem?_cons_zero] at z0 z1 z2 n0 n1 n2
        have HO := Lib.hid (And.intro ho F5)
        clear B5 ho F5 BQ FQ
        go_wp2_with fail
        exact bodyPost_ret (v := .tuple #[.agg #[.int .i64 0, .slice none 0 0, .slice none 0 0], .int .i64 p, .int .i64 4]) (by simp [results, Tryz.results20, go_sem, n0, n1, n2]) rfl HO.out
    · obtain ⟨rfl, h8, rfl⟩ : tc = 2 ∧ ¬ (8 : Int) < tn ∧ tm = mk := ⟨Classical.byContradiction fun h => hbad (.inl h), fun h => hbad (.inr (.inl h)), Classical.byContradiction fun h => hbad (.inr (.inr h))⟩
      have hgood : ¬ ((2 : Int) ≠ 2 ∨ 8 < tn ∨ tm ≠ madeG tn) := by
        rintro (h | h | h)
        · exact h rfl
        · exact h8 h
        · exact h HMK.out
      have HGD := Lib.hid hgood
      have h4 : (tm == tm) = true := by cases tm <;> rfl
      have h5 : (tm != tm) = false := by cases tm <;> rfl
      clear hbad hgood
      go_upto_region 4 with fail
      go_quiet ((go_at_call 74; exact Calls.quiet_of_same ((HMD.out _).mono (fun _ _ ⟨h1, h2⟩ => ⟨h1, h2.symm⟩))))
      have FQ : Fr (fun _ => False) w2 (w2.drewN nq) := (Fr.refl w2).drewN nq
      have HBZ2 := Lib.hid (HB2.out.fr FQ (fun h => h))
      have HBY2 := Lib.hid (HBY.out.fr FQ (fun h => h))
      have HF3 := Lib.hid (HF2.out.trans FQ)
      clear FQ HB2 HBY HF2 e0 e1 e2
      generalize w2.drewN nq = w3 at *
      have hs3 := HF3.out.size
      by_cases hn : l.length - s < n
      · have q3 : (l.length : Int) - (s : Int) < (n : Int) := by omega
        have HX := Lib.hid (genRead_end HRD.out HGD.out (by rw [List.length_drop]; have := HS.out; omega))
        obtain ⟨W', hW, B5, ho, F5⟩ := ERR.out w3 3 HBZ2.out HF3.out HX.out
        have z0 := HBZ2.out.cell 0
        have z1 := HBZ2.out.cell 1
        have z2 := HBZ2.out.cell 2
        have f0 := HBZ2.out.frozen 0
        have f1 := HBZ2.out.frozen 1
        have f2 := HBZ2.out.frozen 2
        subst hW
        have n0 := B5.cell 0
        have n1 := B5.cell 1
        have n2 := B5.cell 2
        simp only [List.getElem?_toArray, List.getElem?_cons_succ, List.getElem?_cons_zero] at z0 z1 z2 n0 n1 n2
        have HO := Lib.hid (And.intro ho F5)
        clear B5 ho F5 hn
        go_wp2_with fail
        exact bodyPost_ret (v := .tuple #[.agg #[.int .i64 0, .slice none 0 0, .slice none 0 0], .int .i64 p, .int .i64 3]) (by simp [results, Tryz.results20, go_sem, n0, n1, n2]) rfl HO.out
      · have q3 : ¬ (l.length : Int) - (s : Int) < (n : Int) := by omega
        have r1 : (0 : Int) ≤ (s : Int) := by omega
        obtain ⟨sm, hsm⟩ : ∃ sm, sm = s + n := ⟨_, rfl⟩
        have hsi : (s : Int) + (n : Int) = (sm : Int) := by omega
        have hwi : IntKind.i64.wrap (sm : Int) = (sm : Int) := by simp [IntKind.wrap, IntKind.signed, IntKind.bits]; omega
        have r2 : (s : Int) ≤ (sm : Int) := by omega
        have r2N : s ≤ sm := by omega
        have r3 : (sm : Int) ≤ (cap : Int) := by omega
        have r3N : sm ≤ cap := by omega
        have r4 : (0 : Int) ≤ (sm : Int) := by omega
        have hcm3 : cap ≤ maxLen := by
          obtain ⟨_, _, he, -, h2, -⟩ := HH.out.now.form
          simp only [Value.slice.injEq] at he
          omega
        obtain ⟨A, hA⟩ : ∃ A, A = (if cap = s then av else Option.map (fun x => x.add s) av) := ⟨_, rfl⟩
        have hA2 : 0 < n → ∀ b o, av = some ⟨b, o, none⟩ → A = some ⟨b, o + s, none⟩ := fun h0 b o e => by
          subst e
          rw [hA, if_neg (by omega)]
          show some ((⟨b, o, none⟩ : Addr).add s) = _
          congr 1
          unfold Addr.add
          split <;> simp_all
        have HKB : Kept (fun W => Bytes W (.slice A n (cap - s)) ((l.drop s).take n)) K w := HH.out.imp (fun W hW => hW.piece s n (by omega) A (cap - s) hA2 (by omega) (by omega))
        obtain ⟨m, hm⟩ : ∃ m, m = (l.drop s).take n := ⟨_, rfl⟩
        have hml : m.length = n := by rw [hm, List.length_take, List.length_drop]; omega
        have hdd : ((l.drop p).drop k).take n = m := by rw [hm, List.drop_drop, HS.out]
        rw [← hm] at HKB
        obtain ⟨cp, hcp⟩ : ∃ cp, cp = cap - s := ⟨_, rfl⟩
        rw [← hcp] at HKB
        have HMM := Lib.hid hml
        have HDD := Lib.hid hdd
        have HKBW := Lib.hid HKB
        have hend : ¬ (l.drop p).length - k < n := by rw [List.length_drop]; have := HS.out; omega
        have HEND := Lib.hid hend
        have HSM := Lib.hid (show ((p + (k + n) : Nat) : Int) = (sm : Int) by have := HS.out; omega)
        have HSN := Lib.hid (show sm - s = n by omega)
        have HA := Lib.hid hA
        have HCP := Lib.hid hcp
        have hnl : n ≤ 10000000 := by omega
        clear hm hml hdd hcp HKB hend hn hA hA2 hcm3 hsm
        go_upto_region 8 with fail
        go_cut [11] from 53 to 61 (fun s wc => s = pt w3.heap.size ∧ wc = (w3.alloc (.cells #[.int .i64 tn, .slice A n cp, .slice none 0 0] 46)).drew)
        case first =>
          have SD := HBY2.out.drew.cell
          have SD2 := (HBY2.out.alloc (.cells #[.int .i64 0, .slice none 0 0, .slice none 0 0] 46)).cell
          have hA2 := HA.out.symm
          have hcp2 := HCP.out.symm
          have hsn2 := HSN.out
          go_region_law fail
          all_goals
            go_wp2_with fail
            go_meet
            first | exact ⟨rfl, rfl⟩ | exact ⟨rfl, by rw [HA.out, HCP.out]⟩
        case rest =>
          obtain ⟨rfl, rfl⟩ := hcut
          obtain ⟨x8, hx8⟩ : ∃ x8, x8 = w3.heap.size := ⟨_, rfl⟩
          have BX := (Blk.new w3 46 #[.int .i64 tn, .slice A n cp, .slice none 0 0]).drew
          have F6 : Fr (fun _ => False) w3 (w3.alloc (.cells #[.int .i64 tn, .slice A n cp, .slice none 0 0] 46)).drew := ((Fr.refl w3).alloc _).drew
          rw [← hx8] at BX ⊢
          have hzx : z ≠ x8 := by have := HBZ2.out.lt; omega
          have hxw : w.heap.size ≤ x8 := by omega
          have HBX := Lib.hid BX
          have HBZ6 := Lib.hid (HBZ2.out.fr F6 (fun h => h))
          have BY6 := HBY2.out.fr F6 (fun h => h)
          have HF6 := Lib.hid (HF3.out.trans F6)
          have hs6 := HF6.out.size
          clear BX F6 HBZ2 HBY2 HF3 hx8 hs3 HY
          generalize (w3.alloc (.cells #[.int .i64 tn, .slice A n cp, .slice none 0 0] 46)).drew = w5 at *
          have e1 := BY6.cell 1
          simp only [List.getElem?_toArray, List.getElem?_cons_succ, List.getElem?_cons_zero] at e1
          clear BY6
          by_cases h4n : tn = 4
          · subst h4n
            have HGR := Lib.hid (genRead_dir HRD.out HGD.out HEND.out rfl)
            rw [HDD.out] at HGR
            have HPA := Lib.hid (r14Parse_any _ m (fun k => K k ∨ (w.heap.size ≤ k ∧ k < w5.heap.size)) w5 (HKBW.out.step HF6.out (fun _ _ h => h.elim) (fun k hk => hk.elim .inl (fun h => .inr h.1))) (fun k hk => by rcases hk with hk | hk; have := HKK.out k hk; omega; exact hk.2) (by have := HMM.out; omega))
            have hx5 := HBX.out.lt
            have hA2 := HA.out.symm
            have hcp2 := HCP.out.symm
            have hsn2 := HSN.out
            go_wp2_with fail
            refine HPA.out.mono ?_
            rintro e w7 ⟨hout, F7⟩
            have HB7 := HBX.out.fr F7 (fun h => h)
            have HBZ7 := Lib.hid (HBZ6.out.fr F7 (fun h => h))
            have HF7 := Lib.hid (HF6.out.trans F7)
            clear F7 HPA HBX HBZ6 HF6 e1 hA2 hcp2 hsn2
            unfold rParseOut at hout
            cases hq : nameParseS m with
            | error x =>
              rw [hq] at hout HGR
              subst hout
              have hx : x ≠ 0 := nameParseNz hq
              have hx1 : (x == 0) = false := beq_eq_false_iff_ne.2 hx
              have hx2 : (x != 0) = true := by simpa using hx
              obtain ⟨W', hW, B5, ho, F5⟩ := ERR.out w7 x HBZ7.out HF7.out HGR.out
              have z0 := HBZ7.out.cell 0
              have z1 := HBZ7.out.cell 1
              have z2 := HBZ7.out.cell 2
              have f0 := HBZ7.out.frozen 0
              have f1 := HBZ7.out.frozen 1
              have f2 := HBZ7.out.frozen 2
              subst hW
              have n0 := B5.cell 0
              have n1 := B5.cell 1
              have n2 := B5.cell 2
              simp only [List.getElem?_toArray, List.getElem?_cons_succ, List.getElem?_cons_zero] at z0 z1 z2 n0 n1 n2
              have HO := Lib.hid (And.intro ho F5)
              clear B5 ho F5 hq hx HB7
              go_wp2_with fail
              exact bodyPost_ret (v := .tuple #[.agg #[.int .i64 0, .slice none 0 0, .slice none 0 0], .int .i64 p, .int .i64 x]) (by simp [results, Tryz.results20, go_sem, n0, n1, n2]) rfl HO.out
            | ok nm =>
              rw [hq] at hout HGR
              obtain ⟨am, cm, rfl, hkn⟩ := hout
              obtain ⟨hok, hfew⟩ := nameParse_few hq (by have := HMM.out; omega)
              have x0 := HB7.cell 0
              have x1 := HB7.cell 1
              have x2 := HB7.cell 2
              have g0 := HB7.frozen 0
              have g1 := HB7.frozen 1
              have g2 := HB7.frozen 2
              simp only [List.getElem?_toArray, List.getElem?_cons_succ, List.getElem?_cons_zero] at x0 x1 x2
              obtain ⟨B8, F8⟩ := set3 HB7 (.int .i64 4) (.slice none 0 0) (.slice am nm.length cm)
              have HB8 := Lib.hid B8
              have HBZ8 := Lib.hid (HBZ7.out.fr F8 hzx)
              have HF8 := Lib.hid (HF7.out.trans' F8 (fun i hi e => by omega))
              have HK8 := Lib.hid (hkn.step (K' := fun k => K k ∨ (w.heap.size ≤ k ∧ k < w5.heap.size)) F8 (fun k _ e => .inr (by omega)) (fun k hk => .inl hk))
              have HGT := Lib.hid (r15Right_any (.agg #[.int .i64 4, .slice none 0 0, .slice am nm.length cm]) ⟨4, [], nm⟩ _ ⟨_, _, rfl, Vals.nil _, HK8.out.now⟩ ⟨by simp, hfew⟩)
              have hgok : genOk ⟨4, [], nm⟩ = true := by simp [genOk, hok]
              rw [hgok] at HGT
              have hz5 := HBZ7.out.lt
              clear B8 F8 HB7 HBZ7 HF7 hq hkn hok hfew hgok
              go_upto_region 14 with fail
              generalize (((w7.setCell ⟨x8, 0, none⟩ (.int .i64 4)).setCell ⟨x8, 1, none⟩ (.slice none 0 0)).setCell ⟨x8, 2, none⟩ (.slice am nm.length cm)) = w8 at *
              clear x0 x1 x2 g0 g1 g2
              have y0 := HB8.out.cell 0
              have y1 := HB8.out.cell 1
              have y2 := HB8.out.cell 2
              simp only [List.getElem?_toArray, List.getElem?_cons_succ, List.getElem?_cons_zero] at y0 y1 y2
              go_wp2_with fail
              refine HGT.out.mono ?_
              rintro e w9 ⟨rfl, F9⟩
              have BX9 := HB8.out.fr F9 (fun h => h)
              have BZ9 := HBZ8.out.fr F9 (fun h => h)
              clear y0 y1 y2
              have y0 := BX9.cell 0
              have y1 := BX9.cell 1
              have y2 := BX9.cell 2
              have z0 := BZ9.cell 0
              have z1 := BZ9.cell 1
              have z2 := BZ9.cell 2
              have f0 := BZ9.frozen 0
              have f1 := BZ9.frozen 1
              have f2 := BZ9.frozen 2
              obtain ⟨B5, F5⟩ := set3 BZ9 (.int .i64 4) (.slice none 0 0) (.slice am nm.length cm)
              have n0 := B5.cell 0
              have n1 := B5.cell 1
              have n2 := B5.cell 2
              simp only [List.getElem?_toArray, List.getElem?_cons_succ, List.getElem?_cons_zero] at y0 y1 y2 z0 z1 z2 n0 n1 n2
              have HF5 := Lib.hid ((HF8.out.trans F9).trans' F5 (fun i hi e => by have := HZ.out; omega))
              have HK5 := Lib.hid ((HK8.out.old F9).step (K' := K) F5 (fun k _ e => .inr (by have := HZ.out; omega)) (fun k hk => .inl (.inl hk)))
              clear B5 F5 BZ9 BX9 F9 HGT HK8 HF8
              go_wp2_with fail
              refine bodyPost_ret (v := .tuple #[.agg #[.int .i64 4, .slice none 0 0, .slice am nm.length cm], .int .i64 (sm : Int), .int .i64 0]) (by simp [results, Tryz.results20, go_sem, n0, n1, n2]) rfl ⟨?_, HF5.out⟩
              rw [HGR.out]
              exact ⟨none, 0, am, cm, by rw [HSM.out]; rfl, fun W f => ⟨Vals.nil W, HK5.out W f⟩⟩
          · have k4 : (tn == 4) = false := beq_eq_false_iff_ne.2 h4n
            have HGR := genRead_on HRD.out HGD.out HEND.out h4n
            rw [HDD.out] at HGR
            have hgo : genOk ⟨tn, m, []⟩ = contB tn m := by unfold genOk; rw [if_neg h4n]; simp
            have HGT := Lib.hid (r15Right_any (.agg #[.int .i64 tn, .slice A n cp, .slice none 0 0]) ⟨tn, m, []⟩ _ ⟨_, _, rfl, (HKBW.out.old HF6.out).now, (name_nil (fun _ => True) _).now⟩ ⟨by have := HMM.out; show m.length ≤ _; omega, by simp⟩)
            rw [hgo] at HGT
            have HGRR := Lib.hid HGR
            have x0 := HBX.out.cell 0
            have x1 := HBX.out.cell 1
            have x2 := HBX.out.cell 2
            simp only [List.getElem?_toArray, List.getElem?_cons_succ, List.getElem?_cons_zero] at x0 x1 x2
            clear HGR hgo h4n
            obtain ⟨cb, hcb⟩ : ∃ cb, cb = contB tn m := ⟨_, rfl⟩
            rw [← hcb] at HGT HGRR
            clear hcb
            go_wp2_with fail
            refine HGT.out.mono ?_
            rintro e w9 ⟨rfl, F9⟩
            have BX9 := HBX.out.fr F9 (fun h => h)
            have BZ9 := HBZ6.out.fr F9 (fun h => h)
            have HF9 := Lib.hid (HF6.out.trans F9)
            clear x0 x1 x2 F9 HF6 HGT
            have z0 := BZ9.cell 0
            have z1 := BZ9.cell 1
            have z2 := BZ9.cell 2
            have f0 := BZ9.frozen 0
            have f1 := BZ9.frozen 1
            have f2 := BZ9.frozen 2
            simp only [List.getElem?_toArray, List.getElem?_cons_succ, List.getElem?_cons_zero] at z0 z1 z2
            cases cb with
            | false =>
              obtain ⟨W', hW, B5, ho, F5⟩ := ERR.out w9 6 BZ9 HF9.out (HGRR.out.trans (if_neg Bool.false_ne_true))
              subst hW
              have n0 := B5.cell 0
              have n1 := B5.cell 1
              have n2 := B5.cell 2
              simp only [List.getElem?_toArray, List.getElem?_cons_succ, List.getElem?_cons_zero] at n0 n1 n2
              have HO := Lib.hid (And.intro ho F5)
              clear B5 ho F5 BX9 BZ9
              go_wp2_with fail
              exact bodyPost_ret (v := .tuple #[.agg #[.int .i64 0, .slice none 0 0, .slice none 0 0], .int .i64 p, .int .i64 6]) (by simp [results, Tryz.results20, go_sem, n0, n1, n2]) rfl HO.out
            | true =>
              have HGE := Lib.hid (HGRR.out.trans (if_pos rfl))
              have y0 := BX9.cell 0
              have y1 := BX9.cell 1
              have y2 := BX9.cell 2
              obtain ⟨B5, F5⟩ := set3 BZ9 (.int .i64 tn) (.slice A n cp) (.slice none 0 0)
              have n0 := B5.cell 0
              have n1 := B5.cell 1
              have n2 := B5.cell 2
              simp only [List.getElem?_toArray, List.getElem?_cons_succ, List.getElem?_cons_zero] at y0 y1 y2 n0 n1 n2
              have HF5 := Lib.hid (HF9.out.trans' F5 (fun i hi e => by have := HZ.out; omega))
              have HK5 := Lib.hid (HKBW.out.old HF5.out)
              clear B5 F5 BZ9 BX9 HF9 HGRR
              go_wp2_with fail
              refine bodyPost_ret (v := .tuple #[.agg #[.int .i64 tn, .slice A n cp, .slice none 0 0], .int .i64 (sm : Int), .int .i64 0]) (by simp [results, Tryz.results20, go_sem, n0, n1, n2]) rfl ⟨?_, HF5.out⟩
              rw [HGE.out]
              exact ⟨A, cp, none, 0, by rw [HMM.out, HSM.out]; rfl, fun W f => ⟨by rw [HMM.out]; exact HK5.out W f, (name_nil (fun _ => True) W).now⟩⟩
end Go.Proofs.YtacekpdjapgfcaaGreatDoor
