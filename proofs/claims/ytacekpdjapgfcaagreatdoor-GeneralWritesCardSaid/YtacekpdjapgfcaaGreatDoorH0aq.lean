/-
  Merged by program: XNAttrR XNRdnR XNNameR XR14R XR14P XR14N.
-/
import Derived.Test.YtacekpdjapgfcaaGreatDoorH0ap
import Derived.Test.YtacekpdjapgfcaaGreatDoorH0al
import Derived.Test.YtacekpdjapgfcaaGreatDoorH0ad
import Derived.Test.YtacekpdjapgfcaaGreatDoorH0ae
import Derived.Test.YtacekpdjapgfcaaGreatDoorH0ak
import Derived.Test.YtacekpdjapgfcaaGreatDoorH0an
namespace Go.Q
open Go Go.RowKit
theorem own_kept' {w : World} {base n : Nat} {e : TypeId} {v : Value} {xs : List Value} (h : w.ownsRow base e 1 v n xs) (K : Nat → Prop) (hK : ∀ k, K k → k < base) : Kept (fun W => Vals W v xs) K w := fun W f =>
  (Vals.of_own (Go.Proofs.YtacekpdjapgfcaaGreatDoor.ownsRow_fr h f (fun k hk hs => by have := ((Vals.of_own h).2 k hk).1; have := hK k hs; omega))).1
theorem partRead_e1 {l : List UInt8} {x : Int} (h : openS (tagOf 16) l = .error x) : partReadS l = .error x := by unfold partReadS; rw [h]
theorem partRead_e2 {l y : List UInt8} {m : Nat} {x : Int} (h : openS (tagOf 16) l = .ok (y, m)) (h2 : oidReadS y = .error x) : partReadS l = .error x := by unfold partReadS; rw [h]; simp only [h2]
theorem partRead_e3 {l y : List UInt8} {m q : Nat} {o : List Int} {x : Int} (h : openS (tagOf 16) l = .ok (y, m)) (h2 : oidReadS y = .ok (o, q)) (h3 : oneS (y.drop q) = .error x) : partReadS l = .error x := by unfold partReadS; rw [h]; simp only [h2, h3]
theorem partRead_ok {l y : List UInt8} {m q k n : Nat} {o : List Int} {t : Tag} (h : openS (tagOf 16) l = .ok (y, m)) (h2 : oidReadS y = .ok (o, q)) (h3 : oneS (y.drop q) = .ok (t, k, n)) : partReadS l = if n < y.length - q then .error 7 else .ok (⟨o, y.drop q⟩, m) := by unfold partReadS; rw [h]; simp only [h2, h3]
theorem oneS_le {l : List UInt8} {t : Tag} {k n : Nat} (h : oneS l = .ok (t, k, n)) : n ≤ l.length := by
  unfold oneS at h
  split at h
  · cases h
  · rename_i u n' k' hr
    have := readS_le hr
    split at h
    · cases h
    · simp only [Except.ok.injEq, Prod.mk.injEq] at h
      omega
end Go.Q
namespace Go.Proofs.YtacekpdjapgfcaaGreatDoor
open Go Go.RowKit Go.Q
set_option linter.unusedSimpArgs false
def attrOut (w w' : World) (c : Nat) (K : Nat → Prop) (bs : List UInt8) (p : Nat) (r : Except Int (Part × Nat)) (e : Ending) : Prop :=
  match r with
  | .ok (q, m) => ∃ ao co av cv, e = .returned (.tuple #[.agg #[.slice ao q.o.length co, .slice av q.b.length cv], .int .i64 0]) ∧ Kept (fun W => Ints W (.slice ao q.o.length co) q.o ∧ Bytes W (.slice av q.b.length cv) q.b) (fun k => k < w.heap.size) w' ∧ CurAt w' c K bs (p + m)
  | .error x => e = .returned (.tuple #[.agg #[.slice none 0 0, .slice none 0 0], .int .i64 x]) ∧ x ≠ 0 ∧ ∃ q, p ≤ q ∧ CurAt w' c K bs q
set_option maxRecDepth 20000 in
set_option maxHeartbeats 4000000 in
theorem attr_any {w : World} {c : Nat} {K : Nat → Prop} {bs : List UInt8} {p : Nat} (h : CurAt w c K bs p) :
    Calls Tryz.prog 191 #[.agg #[pt c]] w fun e w' => attrOut w w' c K bs p (partReadS (bs.drop p)) e ∧ Fr (fun k => k = c) w w' := by
  have hcl := h.lt
  obtain ⟨b0, hb0⟩ : ∃ b0, b0 = w.heap.size := ⟨_, rfl⟩
  have F0 : Fr (fun _ => False) w ((w.alloc (.cells #[pt c] 165)).alloc (.cells #[.slice none 0 0, .slice none 0 0] 108)) := ((Fr.refl w).alloc _).alloc _
  have B0 := (Blk.new w 165 #[pt c]).alloc (.cells #[.slice none 0 0, .slice none 0 0] 108)
  have BR := Blk.new (w.alloc (.cells #[pt c] 165)) 108 #[.slice none 0 0, .slice none 0 0]
  rw [World.size_alloc] at BR
  have H := Lib.hid (h.step (K' := fun k => K k ∨ w.heap.size ≤ k) F0 (fun _ _ h => h.elim) (fun _ h => h))
  rw [← hb0] at B0 BR
  have hbc : b0 ≠ c := by omega
  have hrc : b0 + 1 ≠ c := by omega
  have HB0 := Lib.hid hb0
  clear h hb0
  go_enter Tryz.func191, Tryz.ntmps191
  go_upto_region 1 with fail
  rw [← HB0.out]
  generalize ((w.alloc (.cells #[pt c] 165)).alloc (.cells #[.slice none 0 0, .slice none 0 0] 108)) = w0 at *
  have hs0 := F0.size
  have hrl := BR.lt
  have HF0 := Lib.hid (F0.mono (T := fun k => k = c) (fun _ _ h => h.elim)).drew
  have HBR := Lib.hid BR.drew
  have HH := Lib.hid (H.out.old (Fr.refl w0).drew)
  have e0 : w0.drew.cell? ⟨b0, 0, none⟩ = some (pt c) := B0.cell 0
  have hd0 : w0.drew.heap.size = w0.heap.size := rfl
  clear F0 B0 BR H
  cases ho : openS (tagOf 16) (bs.drop p) with
  | error x =>
    have hx := openS_nz ho
    have hx1 : (x == 0) = false := beq_eq_false_iff_ne.2 hx
    have hx2 : (x != 0) = true := by simpa using hx
    have HP := Lib.hid (partRead_e1 ho)
    have HX := Lib.hid hx
    have HE := Lib.hid (fun w1 (C : CurAt w1 c (fun k => K k ∨ w.heap.size ≤ k) bs p) => open_err C (tagOf 16) ho)
    clear ho hx
    go_region_held3 (fun w' => w'.cell? ⟨b0, 0, none⟩ = some (pt c)) (exact e0) (first
      | (go_at_call 56; refine (headOf_any 16 _).mono ?_; rintro e w1 ⟨rfl, F1⟩; replace e0 := F1.cell e0 (fun h => h); have HO := Lib.hid (HE.out w1 (HH.out.old F1)))
      | (go_at_call 79; refine HO.out.mono ?_; rintro e w2 ⟨rfl, C2, F2⟩; replace e0 := F2.cell e0 hbc))
    have BR := (HBR.out.fr F1 (fun h => h)).fr F2 hrc
    have HF2 := Lib.hid ((HF0.out.trans (F1.mono (fun _ _ h => h.elim))).trans F2)
    have HC2 := Lib.hid C2
    have SR := BR.cell
    have ZR := BR.frozen
    clear C2 F2 F1 HO HE HH HBR
    go_wp2_with fail
    obtain ⟨B5, F5⟩ := set2 BR (.slice none 0 0) (.slice none 0 0)
    have hb := HB0.out
    have C5 := HC2.out.step (K' := K) F5 (fun k _ e => .inr (by omega)) (fun _ h => .inl (.inl h))
    have G5 := HF2.out.trans' F5 (fun k hk e => by omega)
    generalize ((w2.setCell ⟨b0 + 1, 0, none⟩ (.slice none 0 0)).setCell ⟨b0 + 1, 1, none⟩ (.slice none 0 0)) = w9 at *
    have n0 := B5.cell 0
    have n1 := B5.cell 1
    simp at n0 n1
    refine bodyPost_ret (v := .tuple #[.agg #[.slice none 0 0, .slice none 0 0], .int .i64 x]) (by simp [results, Tryz.results191, go_sem, n0, n1]) rfl ⟨?_, G5⟩
    rw [HP.out]
    exact ⟨rfl, HX.out, p, Nat.le_refl _, C5⟩
  | ok ym =>
    obtain ⟨y, m⟩ := ym
    have HP := Lib.hid ho
    have HE := Lib.hid (fun w1 (C : CurAt w1 c (fun k => K k ∨ w.heap.size ≤ k) bs p) => open_on C (tagOf 16) ho)
    clear ho
    go_region_held3 (fun w' => w'.cell? ⟨b0, 0, none⟩ = some (pt c)) (exact e0) (first
      | (go_at_call 56; refine (headOf_any 16 _).mono ?_; rintro e w1 ⟨rfl, F1⟩; replace e0 := F1.cell e0 (fun h => h); have HO := Lib.hid (HE.out w1 (HH.out.old F1)))
      | (go_at_call 79; refine HO.out.mono ?_; rintro e w2 ⟨⟨g, rfl, ⟨hg, hN⟩, C2⟩, F2⟩; replace e0 := F2.cell e0 hbc))
    have HBR2 := Lib.hid ((HBR.out.fr F1 (fun h => h)).fr F2 hrc)
    have HF2 := Lib.hid ((HF0.out.trans (F1.mono (fun _ _ h => h.elim))).trans F2)
    have HC2 := Lib.hid C2
    have hs1 := F1.size
    have hs2 := F2.size
    rw [hd0] at hs1
    have HN := Lib.hid (hN.step (K' := fun k => k < w1.heap.size ∨ w2.heap.size ≤ k) (Fr.refl w2) (S := fun _ => False) (fun _ _ h => h.elim) (fun _ h => h))
    have hgl := hN.lt
    have HOR := Lib.hid (oidRead_any HN.out)
    rw [List.drop_zero] at HOR
    clear C2 F2 F1 HO HE HH HBR hN
    go_wp2_with fail
    refine HOR.out.mono ?_
    rintro e w3 ⟨hout, F3⟩
    have HF3 := Lib.hid (HF2.out.trans' F3 (fun i hi e => by omega))
    have hrc2 : b0 + 1 ≠ g := by omega
    have HBR3 := Lib.hid (HBR2.out.fr F3 hrc2)
    have HC3 := Lib.hid (HC2.out.step (K' := fun k => K k ∨ w.heap.size ≤ k) F3 (fun k _ e => .inr (by omega)) (fun _ h => .inl h))
    have hs3 := F3.size
    clear F3 HF2 HBR2 HC2 HOR HN
    unfold oidReadOut at hout
    cases ho : oidReadS y with
    | error x =>
      rw [ho] at hout
      obtain ⟨rfl, -⟩ := hout
      have hx := oidRead_nz ho
      have hx1 : (x == 0) = false := beq_eq_false_iff_ne.2 hx
      have hx2 : (x != 0) = true := by simpa using hx
      have HP2 := Lib.hid (partRead_e2 HP.out ho)
      have HX := Lib.hid hx
      have BR := HBR3.out
      have SR := BR.cell
      have ZR := BR.frozen
      clear ho hx
      go_wp2_with fail
      obtain ⟨B5, F5⟩ := set2 BR (.slice none 0 0) (.slice none 0 0)
      have hb := HB0.out
      have C5 := HC3.out.step (K' := K) F5 (fun k _ e => .inr (by omega)) (fun _ h => .inl (.inl h))
      have G5 := HF3.out.trans' F5 (fun k hk e => by omega)
      generalize ((w3.setCell ⟨b0 + 1, 0, none⟩ (.slice none 0 0)).setCell ⟨b0 + 1, 1, none⟩ (.slice none 0 0)) = w9 at *
      have n0 := B5.cell 0
      have n1 := B5.cell 1
      simp at n0 n1
      refine bodyPost_ret (v := .tuple #[.agg #[.slice none 0 0, .slice none 0 0], .int .i64 x]) (by simp [results, Tryz.results191, go_sem, n0, n1]) rfl ⟨?_, G5⟩
      rw [HP2.out]
      exact ⟨rfl, HX.out, _, Nat.le_add_right p m, C5⟩
    | ok oq =>
      obtain ⟨o, q⟩ := oq
      rw [ho] at hout
      obtain ⟨ao, co, rfl, hown, C3⟩ := hout
      rw [Nat.zero_add] at C3
      have HQ := Lib.hid ho
      have HOW := Lib.hid hown
      have HVL := Lib.hid (value_any C3)
      clear ho hown C3
      go_wp2_with fail
      refine HVL.out.mono ?_
      rintro e w4 ⟨hout, F4⟩
      have HF4 := Lib.hid (HF3.out.trans' F4 (fun i hi e => by omega))
      have HBR4 := Lib.hid (HBR3.out.fr F4 hrc2)
      have HC4 := Lib.hid (HC3.out.step (K' := fun k => K k ∨ w.heap.size ≤ k) F4 (fun k _ e => .inr (by omega)) (fun _ h => .inl h))
      have HOW4 := Lib.hid (ownsRow_fr HOW.out F4 (fun k hk e => by have := ((Vals.of_own HOW.out).2 k hk).1; omega))
      have hs4 := F4.size
      clear F4 HF3 HBR3 HC3 HOW HVL
      unfold valueOut at hout
      cases hv : oneS (y.drop q) with
      | error x =>
        rw [hv] at hout
        obtain ⟨rfl, -⟩ := hout
        have hx := oneS_nz hv
        have hx1 : (x == 0) = false := beq_eq_false_iff_ne.2 hx
        have hx2 : (x != 0) = true := by simpa using hx
        have HP2 := Lib.hid (partRead_e3 HP.out HQ.out hv)
        have HX := Lib.hid hx
        have BR := HBR4.out
        have SR := BR.cell
        have ZR := BR.frozen
        clear hv hx
        go_wp2_with fail
        obtain ⟨B5, F5⟩ := set2 BR (.slice none 0 0) (.slice none 0 0)
        have hb := HB0.out
        have C5 := HC4.out.step (K' := K) F5 (fun k _ e => .inr (by omega)) (fun _ h => .inl (.inl h))
        have G5 := HF4.out.trans' F5 (fun k hk e => by omega)
        generalize ((w4.setCell ⟨b0 + 1, 0, none⟩ (.slice none 0 0)).setCell ⟨b0 + 1, 1, none⟩ (.slice none 0 0)) = w9 at *
        have n0 := B5.cell 0
        have n1 := B5.cell 1
        simp at n0 n1
        refine bodyPost_ret (v := .tuple #[.agg #[.slice none 0 0, .slice none 0 0], .int .i64 x]) (by simp [results, Tryz.results191, go_sem, n0, n1]) rfl ⟨?_, G5⟩
        rw [HP2.out]
        exact ⟨rfl, HX.out, _, Nat.le_add_right p m, C5⟩
      | ok tkn =>
        obtain ⟨t, k, n⟩ := tkn
        rw [hv] at hout
        obtain ⟨av, cv, rfl, hownv, C4⟩ := hout
        have hpr := partRead_ok HP.out HQ.out hv
        have hnl := oneS_le hv
        rw [List.length_drop] at hnl
        have HPR := Lib.hid hpr
        have HOV := Lib.hid hownv
        have HL := Lib.hid (left_any C4)
        have hql := C4.le
        clear hv hownv hpr C4
        go_wp2_with fail
        refine HL.out.mono ?_
        rintro e w5 ⟨rfl, F5⟩
        have HF5 := Lib.hid (HF4.out.trans (F5.mono (fun _ _ h => h.elim)))
        have BR := HBR4.out.fr F5 (fun h => h)
        have HC5 := Lib.hid (HC4.out.old F5)
        have HOW5 := Lib.hid (ownsRow_fr HOW4.out F5 (fun _ _ h => h))
        have HOV5 := Lib.hid (ownsRow_fr HOV.out F5 (fun _ _ h => h))
        have SR := BR.cell
        have ZR := BR.frozen
        have hs5 := F5.size
        clear F5 HF4 HBR4 HC4 HOW4 HOV HL
        by_cases hn : n < y.length - q
        · have q1 : (0 : Int) < ((y.length - (q + n) : Nat) : Int) := by omega
          have hp := HPR.out
          rw [if_pos hn] at hp
          have HP2 := Lib.hid hp
          clear hp HPR hn
          go_wp2_with fail
          obtain ⟨B5, F5⟩ := set2 BR (.slice none 0 0) (.slice none 0 0)
          have hb := HB0.out
          have C5 := HC5.out.step (K' := K) F5 (fun k _ e => .inr (by omega)) (fun _ h => .inl (.inl h))
          have G5 := HF5.out.trans' F5 (fun k hk e => by omega)
          generalize ((w5.setCell ⟨b0 + 1, 0, none⟩ (.slice none 0 0)).setCell ⟨b0 + 1, 1, none⟩ (.slice none 0 0)) = w9 at *
          have n0 := B5.cell 0
          have n1 := B5.cell 1
          simp at n0 n1
          refine bodyPost_ret (v := .tuple #[.agg #[.slice none 0 0, .slice none 0 0], .int .i64 7]) (by simp [results, Tryz.results191, go_sem, n0, n1]) rfl ⟨?_, G5⟩
          rw [HP2.out]
          exact ⟨rfl, by decide, _, Nat.le_add_right p m, C5⟩
        · have hyn : y.length - (q + n) = 0 := by omega
          have hp := HPR.out
          rw [if_neg hn] at hp
          have HP2 := Lib.hid hp
          have hyq : n = (y.drop q).length := by rw [List.length_drop]; omega
          have HYQ := Lib.hid hyq
          simp only [hyn]
          clear hp HPR hn hyn hyq
          go_wp2_with fail
          obtain ⟨B5, F5⟩ := set2 BR (.slice ao o.length co) (.slice av n cv)
          have hb := HB0.out
          have C5 := HC5.out.step (K' := K) F5 (fun k _ e => .inr (by omega)) (fun _ h => .inl (.inl h))
          have G5 := HF5.out.trans' F5 (fun k hk e => by omega)
          have k1 := own_kept' (ownsRow_fr HOW5.out F5 (fun k hk e => by have := ((Vals.of_own HOW5.out).2 k hk).1; omega)) (fun k => k < w.heap.size) (fun k hk => by omega)
          have k2 := own_kept' (ownsRow_fr HOV5.out F5 (fun k hk e => by have := ((Vals.of_own HOV5.out).2 k hk).1; omega)) (fun k => k < w.heap.size) (fun k hk => by omega)
          generalize ((w5.setCell ⟨b0 + 1, 0, none⟩ (.slice ao o.length co)).setCell ⟨b0 + 1, 1, none⟩ (.slice av n cv)) = w9 at *
          have n0 := B5.cell 0
          have n1 := B5.cell 1
          simp at n0 n1
          have hyq := HYQ.out
          rw [List.take_of_length_le (by omega)] at k2
          subst hyq
          refine bodyPost_ret (v := .tuple #[.agg #[.slice ao o.length co, .slice av (y.drop q).length cv], .int .i64 0]) (by simp [results, Tryz.results191, go_sem, n0, n1]) rfl ⟨?_, G5⟩
          rw [HP2.out]
          exact ⟨ao, co, av, cv, rfl, k1.both k2, C5⟩
end Go.Proofs.YtacekpdjapgfcaaGreatDoor

namespace Go.Q
open Go Go.RowKit
theorem cmpS_three : ∀ a b : List UInt8, cmpS a b = -1 ∨ cmpS a b = 0 ∨ cmpS a b = 1
  | [], [] => .inr (.inl rfl)
  | [], _ :: _ => .inl rfl
  | _ :: _, [] => .inr (.inr rfl)
  | x :: a, y :: b => by
    simp only [cmpS]
    split
    · exact cmpS_three a b
    · split
      · exact .inl rfl
      · exact .inr (.inr rfl)
theorem rdnRead_e1 {l : List UInt8} {x : Int} (h : openS (tagOf 17) l = .error x) : rdnReadS l = .error x := by unfold rdnReadS; rw [h]
theorem rdnRead_e2 {l y : List UInt8} {k : Nat} {x : Int} (h : openS (tagOf 17) l = .ok (y, k)) (h2 : rdnSt [] [] y = .error x) : rdnReadS l = .error x := by unfold rdnReadS; rw [h]; simp only [h2]
theorem rdnRead_ok {l y : List UInt8} {k : Nat} {r : List Part} (h : openS (tagOf 17) l = .ok (y, k)) (h2 : rdnSt [] [] y = .ok r) : rdnReadS l = .ok (r, k) := by unfold rdnReadS; rw [h]; simp only [h2]
theorem drop_ne {l : List UInt8} {q : Nat} (h : q < l.length) : l.drop q ≠ [] := by
  intro e
  have := congrArg List.length e
  rw [List.length_drop, List.length_nil] at this
  omega
end Go.Q
namespace Go.Proofs.YtacekpdjapgfcaaGreatDoor
open Go Go.RowKit Go.Q
set_option linter.unusedSimpArgs false
def rdnOut (w w' : World) (c : Nat) (K : Nat → Prop) (bs : List UInt8) (p : Nat) (r : Except Int (List Part × Nat)) (e : Ending) : Prop :=
  match r with
  | .ok (l, m) => ∃ a cc, e = .returned (.tuple #[.slice a l.length cc, .int .i64 0]) ∧ Kept (fun W => Attrs W (.slice a l.length cc) l) (fun k => k < w.heap.size) w' ∧ CurAt w' c K bs (p + m)
  | .error x => e = .returned (.tuple #[.slice none 0 0, .int .i64 x]) ∧ x ≠ 0 ∧ ∃ q, p ≤ q ∧ CurAt w' c K bs q
set_option maxRecDepth 20000 in
set_option maxHeartbeats 4000000 in
theorem rdn_any {w : World} {c : Nat} {K : Nat → Prop} {bs : List UInt8} {p : Nat} (h : CurAt w c K bs p) (hbs : bs.length ≤ 10000000) :
    Calls Tryz.prog 150 #[.agg #[pt c]] w fun e w' => rdnOut w w' c K bs p (rdnReadS (bs.drop p)) e ∧ Fr (fun k => k = c) w w' := by
  have hcl := h.lt
  obtain ⟨b0, hb0⟩ : ∃ b0, b0 = w.heap.size := ⟨_, rfl⟩
  have F0 : Fr (fun _ => False) w (w.alloc (.cells #[pt c] 165)) := (Fr.refl w).alloc _
  have B0 := Blk.new w 165 #[pt c]
  have H := Lib.hid (h.step (K' := fun k => K k ∨ w.heap.size ≤ k) F0 (fun _ _ h => h.elim) (fun _ h => h))
  rw [← hb0] at B0
  have hbc : b0 ≠ c := by omega
  have HB0 := Lib.hid hb0
  clear h hb0
  go_enter Tryz.func150, Tryz.ntmps150
  go_upto_region 1 with fail
  rw [← HB0.out]
  generalize (w.alloc (.cells #[pt c] 165)) = w0 at *
  have hs0 := F0.size
  have HF0 := Lib.hid (F0.mono (T := fun k => k = c) (fun _ _ h => h.elim)).drew
  have HH := Lib.hid (H.out.old (Fr.refl w0).drew)
  have e0 : w0.drew.cell? ⟨b0, 0, none⟩ = some (pt c) := B0.cell 0
  have hd0 : w0.drew.heap.size = w0.heap.size := rfl
  clear F0 B0 H
  cases ho : openS (tagOf 17) (bs.drop p) with
  | error x =>
    have hx := openS_nz ho
    have hx1 : (x == 0) = false := beq_eq_false_iff_ne.2 hx
    have hx2 : (x != 0) = true := by simpa using hx
    have HP := Lib.hid (rdnRead_e1 ho)
    have HX := Lib.hid hx
    have HE := Lib.hid (fun w1 (C : CurAt w1 c (fun k => K k ∨ w.heap.size ≤ k) bs p) => open_err C (tagOf 17) ho)
    clear ho hx
    go_region_held3 (fun w' => w'.cell? ⟨b0, 0, none⟩ = some (pt c)) (exact e0) (first
      | (go_at_call 56; refine (headOf_any 17 _).mono ?_; rintro e w1 ⟨rfl, F1⟩; replace e0 := F1.cell e0 (fun h => h); have HO := Lib.hid (HE.out w1 (HH.out.old F1)))
      | (go_at_call 79; refine HO.out.mono ?_; rintro e w2 ⟨rfl, C2, F2⟩; replace e0 := F2.cell e0 hbc))
    have HF2 := Lib.hid ((HF0.out.trans (F1.mono (fun _ _ h => h.elim))).trans F2)
    have HC2 := Lib.hid C2
    clear C2 F2 F1 HO HE HH
    go_wp2_with fail
    refine bodyPost_ret (v := .tuple #[.slice none 0 0, .int .i64 x]) (by simp [results, Tryz.results150, go_sem]) rfl ⟨?_, HF2.out⟩
    rw [HP.out]
    exact ⟨rfl, HX.out, p, Nat.le_refl _, HC2.out.step (K' := K) (Fr.refl w2) (S := fun _ => False) (fun _ _ h => h.elim) (fun k hk => .inl (.inl hk))⟩
  | ok ym =>
    obtain ⟨y, m⟩ := ym
    obtain ⟨-, -, hob3, hob4⟩ := open_back ho tag17
    rw [List.length_drop] at hob3
    have hyl : y.length ≤ 10000000 := by omega
    have HP := Lib.hid ho
    have HE := Lib.hid (fun w1 (C : CurAt w1 c (fun k => K k ∨ w.heap.size ≤ k) bs p) => open_on C (tagOf 17) ho)
    clear ho hob3 hob4 hbs
    go_region_held3 (fun w' => w'.cell? ⟨b0, 0, none⟩ = some (pt c)) (exact e0) (first
      | (go_at_call 56; refine (headOf_any 17 _).mono ?_; rintro e w1 ⟨rfl, F1⟩; replace e0 := F1.cell e0 (fun h => h); have HO := Lib.hid (HE.out w1 (HH.out.old F1)))
      | (go_at_call 79; refine HO.out.mono ?_; rintro e w2 ⟨⟨g, rfl, ⟨hg, hN⟩, C2⟩, F2⟩; replace e0 := F2.cell e0 hbc))
    have HF2 := Lib.hid ((HF0.out.trans (F1.mono (fun _ _ h => h.elim))).trans F2)
    have HC2 := Lib.hid C2
    have hs1 := F1.size
    have hs2 := F2.size
    rw [hd0] at hs1
    have HN := Lib.hid (hN.step (K' := fun k => k < w1.heap.size ∨ w2.heap.size ≤ k) (Fr.refl w2) (S := fun _ => False) (fun _ _ h => h.elim) (fun _ h => h))
    have hgl := hN.lt
    clear C2 F2 F1 HO HE HH hN e0 hd0
    go_wp2_with fail
    go_loopg [6, 7] y.length (fun gk u lv wr => ∃ (l : List Part) (lst : List UInt8) (q : Nat) (a : Option Addr) (cc : Nat), gk = y.length - q ∧ q ≤ y.length ∧ l.length ≤ 16 ∧ u = .slice a l.length cc ∧ GRow 2 RPart (fun k => k < w2.heap.size) 108 wr w2.heap.size (.slice a l.length cc) l ∧ Kept (fun W => Bytes W lv lst) (fun k => k < w2.heap.size) wr ∧ lst.length ≤ 1099511627776 ∧ CurAt wr g (fun k => k < w1.heap.size ∨ w2.heap.size ≤ k) y q ∧ CurAt wr c (fun k => K k ∨ w.heap.size ≤ k) bs (p + m) ∧ Fr (fun k => k = c) w wr ∧ w2.heap.size ≤ wr.heap.size ∧ rdnSt [] [] y = rdnSt l lst (y.drop q))
    case atStart => exact ⟨[], [], 0, none, 0, rfl, Nat.zero_le _, by simp, rfl, GRow.nil _ _ _ _ _ _, fun W _ => Vals.nil W, by simp, HN.out, HC2.out, HF2.out, Nat.le_refl _, rfl⟩
    case round =>
      obtain ⟨l, lst, q, a, cc, hgk, hq, hl16, rfl, hrow, hlst, hlsl, hC, hCc, hF, hsz, hR⟩ := hrel
      have HG := Lib.hid hgk
      have HRW := Lib.hid hrow
      have HLS := Lib.hid hlst
      have HCC := Lib.hid hC
      have HCC2 := Lib.hid hCc
      have HF := Lib.hid hF
      have HR := Lib.hid hR
      have HL := Lib.hid (left_any hC)
      clear hgk hrow hlst hC hCc hF hR HC2 HF2 HN
      by_cases hql : q < y.length
      · obtain ⟨lq, hlq⟩ : ∃ lq, lq = y.length - q := ⟨_, rfl⟩
        rw [← hlq] at HL HG
        have q1 : (0 : Int) < (lq : Int) := by omega
        have HLQ := Lib.hid hlq
        clear hlq
        by_cases h16 : l.length = 16
        · have q3 : ((l.length : Int) == 16) = true := by rw [h16]; rfl
          have q4 : (l.length == 16) = true := by rw [h16]; rfl
          have hp := HR.out
          rw [rdnSt_full (drop_ne hql) h16] at hp
          have HP2 := Lib.hid (rdnRead_e2 HP.out hp)
          clear hp HR HP h16
          go_wp2_with fail
          refine HL.out.mono ?_
          rintro e w4 ⟨rfl, F4⟩
          have HF4 := Lib.hid (HF.out.trans (F4.mono (fun _ _ h => h.elim)))
          have HC4 := Lib.hid (HCC2.out.old F4)
          clear F4 HL HCC
          go_wp2_with fail
          refine bodyPost_ret (v := .tuple #[.slice none 0 0, .int .i64 2]) (by simp [results, Tryz.results150, go_sem]) rfl ⟨?_, HF4.out⟩
          rw [HP2.out]
          exact ⟨rfl, by decide, _, Nat.le_add_right p m, HC4.out.step (K' := K) (Fr.refl w4) (S := fun _ => False) (fun _ _ h => h.elim) (fun k hk => .inl (.inl hk))⟩
        · have q3 : ((l.length : Int) == 16) = false := beq_eq_false_iff_ne.2 (by omega)
          have q4 : (l.length == 16) = false := beq_eq_false_iff_ne.2 (by omega)
          go_wp2_with fail
          refine HL.out.mono ?_
          rintro e w4 ⟨rfl, F4⟩
          have HF4 := Lib.hid (HF.out.trans (F4.mono (fun _ _ h => h.elim)))
          have HC4 := Lib.hid (HCC2.out.old F4)
          have HCG4 := Lib.hid (HCC.out.old F4)
          have HRW4 := Lib.hid (HRW.out.old F4)
          have HLS4 := Lib.hid (HLS.out.old F4)
          have hs4 := F4.size
          have HK4 := Lib.hid HRW4.out.keep
          have HAT := Lib.hid (attr_any HCG4.out)
          clear F4 HL HCC HCC2 HF HRW HLS
          go_wp2_with fail
          refine HAT.out.mono ?_
          rintro e w5 ⟨hout, F5⟩
          have HF5 := Lib.hid (HF4.out.trans' F5 (fun i hi e => by omega))
          have HC5 := Lib.hid (HC4.out.step (K' := fun k => K k ∨ w.heap.size ≤ k) F5 (fun k _ e => .inr (by omega)) (fun _ h => .inl h))
          have HRW5 := Lib.hid (HRW4.out.fr F5 (fun k _ e => by omega) (fun k hk e => by have := (HRW4.out.keep k hk).1; omega))
          have HLS5 := Lib.hid (HLS4.out.step (K' := fun k => k < w2.heap.size) F5 (fun k _ e => by omega) (fun _ h => .inl h))
          have hs5 := F5.size
          clear F5 HAT HF4 HC4 HCG4 HRW4 HLS4
          unfold attrOut at hout
          cases hp : partReadS (y.drop q) with
          | error x =>
            rw [hp] at hout
            obtain ⟨rfl, hx, -⟩ := hout
            have hx1 : (x == 0) = false := beq_eq_false_iff_ne.2 hx
            have hx2 : (x != 0) = true := by simpa using hx
            have hr := HR.out
            rw [rdnSt_err (drop_ne hql) h16 hp] at hr
            have HP2 := Lib.hid (rdnRead_e2 HP.out hr)
            have HX := Lib.hid hx
            clear hr HR HP h16 hp hx
            go_wp2_with fail
            refine bodyPost_ret (v := .tuple #[.slice none 0 0, .int .i64 x]) (by simp [results, Tryz.results150, go_sem]) rfl ⟨?_, HF5.out.alloc _⟩
            rw [HP2.out]
            exact ⟨rfl, HX.out, _, Nat.le_add_right p m, HC5.out.step (K' := K) ((Fr.refl w5).alloc _) (S := fun _ => False) (fun _ _ h => h.elim) (fun k hk => .inl (.inl hk))⟩
          | ok pm =>
            obtain ⟨pt1, m1⟩ := pm
            rw [hp] at hout
            obtain ⟨ao, co, av, cv, rfl, hkp, C5⟩ := hout
            obtain ⟨hb1, hb2, hb3, hb4⟩ := partRead_back hp
            rw [List.length_drop] at hb2 hb4
            have hr := HR.out
            rw [rdnSt_ok h16 hp] at hr
            obtain ⟨one, hone⟩ : ∃ one, one = (y.drop q).take m1 := ⟨_, rfl⟩
            have honel : one.length ≤ 1099511627776 := by rw [hone, List.length_take, List.length_drop]; omega
            rw [← hone] at hb1 hr
            rw [List.drop_drop] at hr
            have F6 : Fr (fun _ => False) w5 (w5.alloc (.cells #[.slice ao pt1.o.length co, .slice av pt1.b.length cv] 108)) := (Fr.refl w5).alloc _
            have B6 := Blk.new w5 108 #[.slice ao pt1.o.length co, .slice av pt1.b.length cv]
            obtain ⟨z, hz⟩ : ∃ z, z = w5.heap.size := ⟨_, rfl⟩
            have HKP := Lib.hid (hkp.old F6)
            have HCG6 := Lib.hid (C5.old F6)
            have HF6 := Lib.hid (HF5.out.alloc (.cells #[.slice ao pt1.o.length co, .slice av pt1.b.length cv] 108))
            have HC6 := Lib.hid (HC5.out.old F6)
            have HRW6 := Lib.hid (HRW5.out.old F6)
            have HLS6 := Lib.hid (HLS5.out.old F6)
            have hs6 := F6.size
            have HRR := Lib.hid hr
            have HB1 := Lib.hid hb1
            rw [← hz] at B6
            have HZ := Lib.hid hz
            have hm1 : y.length - (q + m1) < lq := by have := HLQ.out; omega
            have HM := Lib.hid hm1
            have hqm : q + m1 ≤ y.length := by omega
            have hl15 : l.length + 1 ≤ 16 := by omega
            have hzs : w2.heap.size ≤ z := by omega
            clear hr HR hp hkp C5 hb1 hone F6 hz HF5 HC5 HRW5 HLS5 hm1 h16
            go_upto_region 12 with fail
            rw [← HZ.out]
            generalize (w5.alloc (.cells #[.slice ao pt1.o.length co, .slice av pt1.b.length cv] 108)) = w6 at *
            have HWH := Lib.hid (whole_any _ _ pt1.o pt1.b w6 HKP.out.now.1 HKP.out.now.2 (by omega))
            have SZ := B6.cell
            go_wp2_with fail
            refine HWH.out.mono ?_
            rintro e w7 ⟨v, rfl, hwo, F7⟩
            replace hwo : w7.ownsRow w6.heap.size 5 1 v one.length (Lib.byteCells one) := by
              unfold wholeOut at hwo
              rw [HB1.out] at hwo
              exact hwo
            have HVB := Lib.hid (Vals.of_own hwo).1
            have HOV7 := Lib.hid hwo
            obtain ⟨a1, n1, c1, rfl, rfl⟩ := own_shape hwo
            have HF7 := Lib.hid (HF6.out.trans (F7.mono (fun _ _ h => h.elim)))
            have HC7 := Lib.hid (HC6.out.old F7)
            have HCG7 := Lib.hid (HCG6.out.old F7)
            have HRW7 := Lib.hid (HRW6.out.old F7)
            have HLS7 := Lib.hid (HLS6.out.old F7)
            have HKP7 := Lib.hid (HKP.out.old F7)
            have B7 := B6.fr F7 (fun h => h)
            replace SZ := B7.cell
            have hs7 := F7.size
            have hways : l.length = 0 ∨ (l.length ≠ 0 ∧ cmpS lst one = 0) ∨ (l.length ≠ 0 ∧ cmpS lst one = 1) ∨ (l.length ≠ 0 ∧ cmpS lst one = -1) := by
              have := cmpS_three lst one
              omega
            clear hwo F7 HF6 HC6 HCG6 HRW6 HLS6 HKP HWH HB1 B6
            have hrr := HRR.out
            rcases hways with h0 | ⟨h0, hc⟩ | ⟨h0, hc⟩ | ⟨h0, hc⟩
            case inr.inl =>
              rw [if_pos ⟨h0, hc⟩] at hrr
              have HP2 := Lib.hid (rdnRead_e2 HP.out hrr)
              clear hrr HRR
              have HCM := Lib.hid (compare_any _ _ lst one w7 HLS7.out.now HVB.out hlsl honel)
              rw [hc] at HCM
              have q5 : (0 : Int) < (l.length : Int) := by omega
              have q6 : 0 < l.length := by omega
              clear hc
              go_wp2_with fail
              refine HCM.out.mono ?_
              rintro e w8 ⟨rfl, F8⟩
              have HF8 := Lib.hid (HF7.out.trans (F8.mono (T := fun k => k = c) (fun _ _ h => h.elim)))
              have HC8 := Lib.hid (HC7.out.old F8)
              have HCG8 := Lib.hid (HCG7.out.old F8)
              have HRW8 := Lib.hid (HRW7.out.old F8)
              have HKP8 := Lib.hid (HKP7.out.old F8)
              have HOV8 := Lib.hid (ownsRow_fr HOV7.out F8 (fun _ _ h => h))
              replace SZ := (B7.fr F8 (fun h => h)).cell
              have hs8 := F8.size
              clear F8
              go_wp2_with fail
              refine bodyPost_ret (v := .tuple #[.slice none 0 0, .int .i64 10]) (by simp [results, Tryz.results150, go_sem]) rfl ⟨?_, HF8.out⟩
              rw [HP2.out]
              exact ⟨rfl, by decide, _, Nat.le_add_right p m, HC8.out.step (K' := K) (Fr.refl w8) (S := fun _ => False) (fun _ _ h => h.elim) (fun k hk => .inl (.inl hk))⟩
            case inr.inr.inl =>
              rw [if_neg (by rw [hc]; simp), if_pos ⟨h0, by rw [hc]; decide⟩] at hrr
              have HP2 := Lib.hid (rdnRead_e2 HP.out hrr)
              clear hrr HRR
              have HCM := Lib.hid (compare_any _ _ lst one w7 HLS7.out.now HVB.out hlsl honel)
              rw [hc] at HCM
              have q5 : (0 : Int) < (l.length : Int) := by omega
              have q6 : 0 < l.length := by omega
              clear hc
              go_wp2_with fail
              refine HCM.out.mono ?_
              rintro e w8 ⟨rfl, F8⟩
              have HF8 := Lib.hid (HF7.out.trans (F8.mono (T := fun k => k = c) (fun _ _ h => h.elim)))
              have HC8 := Lib.hid (HC7.out.old F8)
              have HCG8 := Lib.hid (HCG7.out.old F8)
              have HRW8 := Lib.hid (HRW7.out.old F8)
              have HKP8 := Lib.hid (HKP7.out.old F8)
              have HOV8 := Lib.hid (ownsRow_fr HOV7.out F8 (fun _ _ h => h))
              replace SZ := (B7.fr F8 (fun h => h)).cell
              have hs8 := F8.size
              clear F8
              go_wp2_with fail
              refine bodyPost_ret (v := .tuple #[.slice none 0 0, .int .i64 9]) (by simp [results, Tryz.results150, go_sem]) rfl ⟨?_, HF8.out⟩
              rw [HP2.out]
              exact ⟨rfl, by decide, _, Nat.le_add_right p m, HC8.out.step (K' := K) (Fr.refl w8) (S := fun _ => False) (fun _ _ h => h.elim) (fun k hk => .inl (.inl hk))⟩
            case' inl =>
              rw [if_neg (fun h => h.1 h0), if_neg (fun h => h.1 h0)] at hrr
              have HRN := Lib.hid hrr
              have q5 : ¬ (0 : Int) < (l.length : Int) := by omega
              have q6 : ¬ 0 < l.length := by omega
              clear hrr HRR
              obtain ⟨w8, hw8⟩ : ∃ w8 : World, w8 = w7 := ⟨_, rfl⟩
              have F8 : Fr (fun _ => False) w7 w8 := by rw [hw8]; exact Fr.refl _
              have HF8 := Lib.hid (HF7.out.trans (F8.mono (T := fun k => k = c) (fun _ _ h => h.elim)))
              have HC8 := Lib.hid (HC7.out.old F8)
              have HCG8 := Lib.hid (HCG7.out.old F8)
              have HRW8 := Lib.hid (HRW7.out.old F8)
              have HKP8 := Lib.hid (HKP7.out.old F8)
              have HOV8 := Lib.hid (ownsRow_fr HOV7.out F8 (fun _ _ h => h))
              replace SZ := (B7.fr F8 (fun h => h)).cell
              have hs8 := F8.size
              rw [← hw8]
              clear F8 hw8 h0
              go_upto_region 19 with fail
            case' inr.inr.inr =>
              rw [if_neg (by rw [hc]; simp), if_neg (by rw [hc]; simp)] at hrr
              have HRN := Lib.hid hrr
              clear hrr HRR
              have HCM := Lib.hid (compare_any _ _ lst one w7 HLS7.out.now HVB.out hlsl honel)
              rw [hc] at HCM
              have q5 : (0 : Int) < (l.length : Int) := by omega
              have q6 : 0 < l.length := by omega
              clear hc
              go_wp2_with fail
              refine HCM.out.mono ?_
              rintro e w8 ⟨rfl, F8⟩
              have HF8 := Lib.hid (HF7.out.trans (F8.mono (T := fun k => k = c) (fun _ _ h => h.elim)))
              have HC8 := Lib.hid (HC7.out.old F8)
              have HCG8 := Lib.hid (HCG7.out.old F8)
              have HRW8 := Lib.hid (HRW7.out.old F8)
              have HKP8 := Lib.hid (HKP7.out.old F8)
              have HOV8 := Lib.hid (ownsRow_fr HOV7.out F8 (fun _ _ h => h))
              replace SZ := (B7.fr F8 (fun h => h)).cell
              have hs8 := F8.size
              clear F8 HCM
              go_upto_region 19 with fail
            all_goals
              clear HF7 HC7 HCG7 HRW7 HLS7 HKP7 HOV7 B7 HVB
              have hk4 := HK4.out
              have hb9 : w2.heap.size ≤ w8.heap.size := by omega
              obtain ⟨a7, c7, w9, hrun, hrow9, F9, hown9⟩ := GRow.add (s := 90) Tryz.underlying90 info108 rfl (by decide) (by decide) HRW8.out hb9 ((Fr.refl w8).alloc (.cells #[.slice ao pt1.o.length co, .slice av pt1.b.length cv] 108)) w8.heap.size [.slice ao pt1.o.length co, .slice av pt1.b.length cv] rfl (Blk.new w8 _ _) (by intro u hu; simp at hu; rcases hu with rfl | rfl <;> rfl) pt1 (fun W f => ⟨_, _, rfl, HKP8.out W (f.mono (fun k _ hk => by
                rcases hk with hk | hk
                · exact (hk4 k hk).2
                · omega))⟩) (by omega)
              have HCG9 := Lib.hid (HCG8.out.step (K' := fun k => k < w1.heap.size ∨ w2.heap.size ≤ k) F9 (fun k _ e => .inr (hk4 k e).1) (fun _ h => .inl h))
              have HC9 := Lib.hid (HC8.out.step (K' := fun k => K k ∨ w.heap.size ≤ k) F9 (fun k _ e => .inr (by have := (hk4 k e).1; omega)) (fun _ h => .inl h))
              have HF9 := Lib.hid (HF8.out.trans' F9 (fun i hi e => by have := (hk4 i e).1; omega))
              have HLS9 := Lib.hid (own_kept' (ownsRow_fr HOV8.out F9 (fun k hk e => by have := (hk4 k e).2; have := ((Vals.of_own HOV8.out).2 k hk).1; omega)) (fun k => k < w2.heap.size) (fun k hk => by omega))
              have hs9 := F9.size
              have HRUN := Lib.hid hrun
              have HRW9 := Lib.hid hrow9
              clear hrun hrow9 F9 hown9 HRW8 HCG8 HC8 HF8 HKP8 HOV8 hk4
              go_wp2_with (at_builtin; refine wpList_append_run (by rfl) (.tmp 48) (.tmp 50) 90 (by rfl) _ w9 (by exact HRUN.out) ?_)
              go_roundg (y.length - (q + m1))
              case measure => rw [HG.out]; exact HM.out
              case rel => exact ⟨l ++ [pt1], one, q + m1, a7, c7, rfl, hqm, by rw [List.length_append]; exact hl15, by rw [List.length_append]; rfl, by rw [List.length_append]; exact HRW9.out, HLS9.out, honel, HCG9.out, HC9.out, HF9.out, by omega, HRN.out⟩
      · obtain rfl : q = y.length := by omega
        have hr := HR.out
        rw [List.drop_length, rdnSt_end] at hr
        rw [Nat.sub_self] at HL
        have HR2 := Lib.hid hr
        clear hr HR
        by_cases h0 : l.length = 0
        · have q5 : ((l.length : Int) == 0) = true := by rw [h0]; rfl
          have q6 : (l.length == 0) = true := by rw [h0]; rfl
          have hp := HR2.out
          rw [if_pos h0] at hp
          have HP2 := Lib.hid (rdnRead_e2 HP.out hp)
          clear hp HR2 HP h0
          go_wp2_with fail
          refine HL.out.mono ?_
          rintro e w4 ⟨rfl, F4⟩
          have HF4 := Lib.hid (HF.out.trans (F4.mono (fun _ _ h => h.elim)))
          have HC4 := Lib.hid (HCC2.out.old F4)
          clear F4 HL HCC
          go_wp2_with fail
          refine bodyPost_ret (v := .tuple #[.slice none 0 0, .int .i64 6]) (by simp [results, Tryz.results150, go_sem]) rfl ⟨?_, HF4.out⟩
          rw [HP2.out]
          exact ⟨rfl, by decide, _, Nat.le_add_right p m, HC4.out.step (K' := K) (Fr.refl w4) (S := fun _ => False) (fun _ _ h => h.elim) (fun k hk => .inl (.inl hk))⟩
        · have q5 : ((l.length : Int) == 0) = false := beq_eq_false_iff_ne.2 (by omega)
          have q6 : (l.length == 0) = false := beq_eq_false_iff_ne.2 h0
          have hp := HR2.out
          rw [if_neg h0] at hp
          have HP2 := Lib.hid (rdnRead_ok HP.out hp)
          clear hp HR2 HP h0
          go_wp2_with fail
          refine HL.out.mono ?_
          rintro e w4 ⟨rfl, F4⟩
          have HF4 := Lib.hid (HF.out.trans (F4.mono (fun _ _ h => h.elim)))
          have HC4 := Lib.hid (HCC2.out.old F4)
          have HK4 := Lib.hid ((HRW.out.old F4).kept (by decide) (fun k => k < w.heap.size) (fun k hk => by omega))
          clear F4 HL HCC
          go_wp2_with fail
          refine bodyPost_ret (v := .tuple #[.slice a l.length cc, .int .i64 0]) (by simp [results, Tryz.results150, go_sem]) rfl ⟨?_, HF4.out⟩
          rw [HP2.out]
          exact ⟨a, cc, rfl, HK4.out.imp (fun W h => h.attrs), HC4.out.step (K' := K) (Fr.refl w4) (S := fun _ => False) (fun _ _ h => h.elim) (fun k hk => .inl (.inl hk))⟩
end Go.Proofs.YtacekpdjapgfcaaGreatDoor

namespace Go.Q
open Go Go.RowKit
theorem nameRead_e1 {l : List UInt8} {x : Int} (h : openS (tagOf 16) l = .error x) : nameReadS l = .error x := by unfold nameReadS; rw [h]
theorem nameRead_e2 {l y : List UInt8} {k : Nat} {x : Int} (h : openS (tagOf 16) l = .ok (y, k)) (h2 : nameSt [] y = .error x) : nameReadS l = .error x := by unfold nameReadS; rw [h]; simp only [h2]
theorem nameRead_ok {l y : List UInt8} {k : Nat} {r : List (List Part)} (h : openS (tagOf 16) l = .ok (y, k)) (h2 : nameSt [] y = .ok r) : nameReadS l = .ok (r, k) := by unfold nameReadS; rw [h]; simp only [h2]
end Go.Q
namespace Go.Proofs.YtacekpdjapgfcaaGreatDoor
open Go Go.RowKit Go.Q
set_option linter.unusedSimpArgs false
def nameOut (w w' : World) (c : Nat) (K : Nat → Prop) (bs : List UInt8) (p : Nat) (r : Except Int (List (List Part) × Nat)) (e : Ending) : Prop :=
  match r with
  | .ok (l, m) => ∃ a cc, e = .returned (.tuple #[.slice a l.length cc, .int .i64 0]) ∧ Kept (fun W => NameAt W (.slice a l.length cc) l) (fun k => k < w.heap.size) w' ∧ CurAt w' c K bs (p + m)
  | .error x => e = .returned (.tuple #[.slice none 0 0, .int .i64 x]) ∧ x ≠ 0 ∧ ∃ q, p ≤ q ∧ CurAt w' c K bs q
set_option maxRecDepth 20000 in
set_option maxHeartbeats 4000000 in
theorem nameR_any {w : World} {c : Nat} {K : Nat → Prop} {bs : List UInt8} {p : Nat} (h : CurAt w c K bs p) (hbs : bs.length ≤ 10000000) :
    Calls Tryz.prog 109 #[.agg #[pt c]] w fun e w' => nameOut w w' c K bs p (nameReadS (bs.drop p)) e ∧ Fr (fun k => k = c) w w' := by
  have hcl := h.lt
  obtain ⟨b0, hb0⟩ : ∃ b0, b0 = w.heap.size := ⟨_, rfl⟩
  have F0 : Fr (fun _ => False) w (w.alloc (.cells #[pt c] 165)) := (Fr.refl w).alloc _
  have B0 := Blk.new w 165 #[pt c]
  have H := Lib.hid (h.step (K' := fun k => K k ∨ w.heap.size ≤ k) F0 (fun _ _ h => h.elim) (fun _ h => h))
  rw [← hb0] at B0
  have hbc : b0 ≠ c := by omega
  have HB0 := Lib.hid hb0
  clear h hb0
  go_enter Tryz.func109, Tryz.ntmps109
  go_upto_region 1 with fail
  rw [← HB0.out]
  generalize (w.alloc (.cells #[pt c] 165)) = w0 at *
  have hs0 := F0.size
  have HF0 := Lib.hid (F0.mono (T := fun k => k = c) (fun _ _ h => h.elim)).drew
  have HH := Lib.hid (H.out.old (Fr.refl w0).drew)
  have e0 : w0.drew.cell? ⟨b0, 0, none⟩ = some (pt c) := B0.cell 0
  have hd0 : w0.drew.heap.size = w0.heap.size := rfl
  clear F0 B0 H
  cases ho : openS (tagOf 16) (bs.drop p) with
  | error x =>
    have hx := openS_nz ho
    have hx1 : (x == 0) = false := beq_eq_false_iff_ne.2 hx
    have hx2 : (x != 0) = true := by simpa using hx
    have HP := Lib.hid (nameRead_e1 ho)
    have HX := Lib.hid hx
    have HE := Lib.hid (fun w1 (C : CurAt w1 c (fun k => K k ∨ w.heap.size ≤ k) bs p) => open_err C (tagOf 16) ho)
    clear ho hx
    go_region_held3 (fun w' => w'.cell? ⟨b0, 0, none⟩ = some (pt c)) (exact e0) (first
      | (go_at_call 56; refine (headOf_any 16 _).mono ?_; rintro e w1 ⟨rfl, F1⟩; replace e0 := F1.cell e0 (fun h => h); have HO := Lib.hid (HE.out w1 (HH.out.old F1)))
      | (go_at_call 79; refine HO.out.mono ?_; rintro e w2 ⟨rfl, C2, F2⟩; replace e0 := F2.cell e0 hbc))
    have HF2 := Lib.hid ((HF0.out.trans (F1.mono (fun _ _ h => h.elim))).trans F2)
    have HC2 := Lib.hid C2
    clear C2 F2 F1 HO HE HH
    go_wp2_with fail
    refine bodyPost_ret (v := .tuple #[.slice none 0 0, .int .i64 x]) (by simp [results, Tryz.results109, go_sem]) rfl ⟨?_, HF2.out⟩
    rw [HP.out]
    exact ⟨rfl, HX.out, p, Nat.le_refl _, HC2.out.step (K' := K) (Fr.refl w2) (S := fun _ => False) (fun _ _ h => h.elim) (fun k hk => .inl (.inl hk))⟩
  | ok ym =>
    obtain ⟨y, m⟩ := ym
    obtain ⟨-, -, hob3, hob4⟩ := open_back ho tag16
    rw [List.length_drop] at hob3
    have hyl : y.length ≤ 10000000 := by omega
    have HP := Lib.hid ho
    have HE := Lib.hid (fun w1 (C : CurAt w1 c (fun k => K k ∨ w.heap.size ≤ k) bs p) => open_on C (tagOf 16) ho)
    clear ho hob3 hob4 hbs
    go_region_held3 (fun w' => w'.cell? ⟨b0, 0, none⟩ = some (pt c)) (exact e0) (first
      | (go_at_call 56; refine (headOf_any 16 _).mono ?_; rintro e w1 ⟨rfl, F1⟩; replace e0 := F1.cell e0 (fun h => h); have HO := Lib.hid (HE.out w1 (HH.out.old F1)))
      | (go_at_call 79; refine HO.out.mono ?_; rintro e w2 ⟨⟨g, rfl, ⟨hg, hN⟩, C2⟩, F2⟩; replace e0 := F2.cell e0 hbc))
    have hs1 := F1.size
    have hs2 := F2.size
    rw [hd0] at hs1
    have F3 : Fr (fun _ => False) w2 (w2.alloc (.cells #[] 90)) := (Fr.refl w2).alloc _
    have HF2 := Lib.hid (((HF0.out.trans (F1.mono (fun _ _ h => h.elim))).trans F2).trans (F3.mono (fun _ _ h => h.elim)))
    have HC2 := Lib.hid (C2.old F3)
    have HN := Lib.hid ((hN.step (K' := fun k => k < w1.heap.size ∨ w2.heap.size ≤ k) (Fr.refl w2) (S := fun _ => False) (fun _ _ h => h.elim) (fun _ h => h)).old F3)
    have hgl := hN.lt
    have N0 : GRow 1 RStep (fun k => k < w2.heap.size) 90 (w2.alloc (.cells #[] 90)) w2.heap.size (.slice (some ⟨w2.heap.size, 0, none⟩) 0 0) [] := ⟨[], own_block (Blk.new w2 90 #[]) 0 (Nat.le_refl _) (Nat.zero_le _) w2.heap.size (Nat.le_refl _), fun i u h => by simp at h⟩
    have HN0 := Lib.hid N0
    have hs3 := F3.size
    clear C2 F2 F1 HO HE HH hN e0 hd0 F3 N0
    go_wp2_with fail
    go_loopg [6] y.length (fun gk u wr => ∃ (l : List (List Part)) (q : Nat) (a : Option Addr) (cc : Nat), gk = y.length - q ∧ q ≤ y.length ∧ l.length ≤ 64 ∧ u = .slice a l.length cc ∧ GRow 1 RStep (fun k => k < w2.heap.size) 90 wr w2.heap.size (.slice a l.length cc) l ∧ CurAt wr g (fun k => k < w1.heap.size ∨ w2.heap.size ≤ k) y q ∧ CurAt wr c (fun k => K k ∨ w.heap.size ≤ k) bs (p + m) ∧ Fr (fun k => k = c) w wr ∧ w2.heap.size ≤ wr.heap.size ∧ nameSt [] y = nameSt l (y.drop q))
    case atStart => exact ⟨[], 0, _, 0, rfl, Nat.zero_le _, by simp, rfl, HN0.out, HN.out, HC2.out, HF2.out, hs3, rfl⟩
    case round =>
      obtain ⟨l, q, a, cc, hgk, hq, hl64, rfl, hrow, hC, hCc, hF, hsz, hR⟩ := hrel
      have HG := Lib.hid hgk
      have HRW := Lib.hid hrow
      have HCC := Lib.hid hC
      have HCC2 := Lib.hid hCc
      have HF := Lib.hid hF
      have HR := Lib.hid hR
      have HL := Lib.hid (left_any hC)
      clear hgk hrow hC hCc hF hR HC2 HF2 HN HN0
      by_cases hql : q < y.length
      · obtain ⟨lq, hlq⟩ : ∃ lq, lq = y.length - q := ⟨_, rfl⟩
        rw [← hlq] at HL HG
        have q1 : (0 : Int) < (lq : Int) := by omega
        have HLQ := Lib.hid hlq
        clear hlq
        by_cases h64 : l.length = 64
        · have q3 : ((l.length : Int) == 64) = true := by rw [h64]; rfl
          have q4 : (l.length == 64) = true := by rw [h64]; rfl
          have hp := HR.out
          rw [nameSt_full (drop_ne hql) h64] at hp
          have HP2 := Lib.hid (nameRead_e2 HP.out hp)
          clear hp HR HP h64
          go_wp2_with fail
          refine HL.out.mono ?_
          rintro e w4 ⟨rfl, F4⟩
          have HF4 := Lib.hid (HF.out.trans (F4.mono (fun _ _ h => h.elim)))
          have HC4 := Lib.hid (HCC2.out.old F4)
          clear F4 HL HCC
          go_wp2_with fail
          refine bodyPost_ret (v := .tuple #[.slice none 0 0, .int .i64 2]) (by simp [results, Tryz.results109, go_sem]) rfl ⟨?_, HF4.out⟩
          rw [HP2.out]
          exact ⟨rfl, by decide, _, Nat.le_add_right p m, HC4.out.step (K' := K) (Fr.refl w4) (S := fun _ => False) (fun _ _ h => h.elim) (fun k hk => .inl (.inl hk))⟩
        · have q3 : ((l.length : Int) == 64) = false := beq_eq_false_iff_ne.2 (by omega)
          have q4 : (l.length == 64) = false := beq_eq_false_iff_ne.2 (by omega)
          go_wp2_with fail
          refine HL.out.mono ?_
          rintro e w4 ⟨rfl, F4⟩
          have HF4 := Lib.hid (HF.out.trans (F4.mono (fun _ _ h => h.elim)))
          have HC4 := Lib.hid (HCC2.out.old F4)
          have HCG4 := Lib.hid (HCC.out.old F4)
          have HRW4 := Lib.hid (HRW.out.old F4)
          have hs4 := F4.size
          have HK4 := Lib.hid HRW4.out.keep
          have HAT := Lib.hid (rdn_any HCG4.out hyl)
          clear F4 HL HCC HCC2 HF HRW
          go_wp2_with fail
          refine HAT.out.mono ?_
          rintro e w5 ⟨hout, F5⟩
          have HF5 := Lib.hid (HF4.out.trans' F5 (fun i hi e => by omega))
          have HC5 := Lib.hid (HC4.out.step (K' := fun k => K k ∨ w.heap.size ≤ k) F5 (fun k _ e => .inr (by omega)) (fun _ h => .inl h))
          have HRW5 := Lib.hid (HRW4.out.fr F5 (fun k _ e => by omega) (fun k hk e => by have := (HRW4.out.keep k hk).1; omega))
          have hs5 := F5.size
          clear F5 HAT HF4 HC4 HCG4 HRW4
          unfold rdnOut at hout
          cases hp : rdnReadS (y.drop q) with
          | error x =>
            rw [hp] at hout
            obtain ⟨rfl, hx, -⟩ := hout
            have hx1 : (x == 0) = false := beq_eq_false_iff_ne.2 hx
            have hx2 : (x != 0) = true := by simpa using hx
            have hr := HR.out
            rw [nameSt_err (drop_ne hql) h64 hp] at hr
            have HP2 := Lib.hid (nameRead_e2 HP.out hr)
            have HX := Lib.hid hx
            clear hr HR HP h64 hp hx
            go_wp2_with fail
            refine bodyPost_ret (v := .tuple #[.slice none 0 0, .int .i64 x]) (by simp [results, Tryz.results109, go_sem]) rfl ⟨?_, HF5.out⟩
            rw [HP2.out]
            exact ⟨rfl, HX.out, _, Nat.le_add_right p m, HC5.out.step (K' := K) (Fr.refl w5) (S := fun _ => False) (fun _ _ h => h.elim) (fun k hk => .inl (.inl hk))⟩
          | ok rm =>
            obtain ⟨r, m1⟩ := rm
            rw [hp] at hout
            obtain ⟨ar, cr, rfl, hkp, C5⟩ := hout
            obtain ⟨hb2, hb3⟩ := rdnRead_len hp
            rw [List.length_drop] at hb2
            have hr := HR.out
            rw [nameSt_ok h64 hp, List.drop_drop] at hr
            have HRN := Lib.hid hr
            have HM := Lib.hid (show y.length - (q + m1) < lq from by have := HLQ.out; omega)
            have hqm : q + m1 ≤ y.length := by omega
            have hl63 : l.length + 1 ≤ 64 := by omega
            have hk4 := HK4.out
            obtain ⟨a7, c7, w9, hrun, hrow9, F9, hown9⟩ := GRow.add (s := 25) Tryz.underlying25 info90 rfl (by decide) (by decide) HRW5.out (by omega) ((Fr.refl w5).alloc (.cells #[.slice ar r.length cr] 90)) w5.heap.size [.slice ar r.length cr] rfl (Blk.new w5 _ _) (by intro u hu; simp at hu; subst hu; rfl) r (fun W f => ⟨_, rfl, hkp W (f.mono (fun k _ hk => by
              rcases hk with hk | hk
              · exact (hk4 k hk).2
              · omega))⟩) (by omega)
            have HCG9 := Lib.hid (C5.step (K' := fun k => k < w1.heap.size ∨ w2.heap.size ≤ k) F9 (fun k _ e => .inr (hk4 k e).1) (fun _ h => .inl h))
            have HC9 := Lib.hid (HC5.out.step (K' := fun k => K k ∨ w.heap.size ≤ k) F9 (fun k _ e => .inr (by have := (hk4 k e).1; omega)) (fun _ h => .inl h))
            have HF9 := Lib.hid (HF5.out.trans' F9 (fun i hi e => by have := (hk4 i e).1; omega))
            have hs9 := F9.size
            have HRUN := Lib.hid hrun
            have HRW9 := Lib.hid hrow9
            clear hr HR hp hkp C5 h64 hrun hrow9 F9 hown9 HRW5 HC5 HF5 hk4 hb2 hb3
            go_wp2_with (at_builtin; refine wpList_append_run (by rfl) (.tmp 35) (.tmp 37) 25 (by rfl) _ w9 (by exact HRUN.out) ?_)
            go_roundg (y.length - (q + m1))
            case measure => rw [HG.out]; exact HM.out
            case rel => exact ⟨l ++ [r], q + m1, a7, c7, rfl, hqm, by rw [List.length_append]; exact hl63, by rw [List.length_append]; rfl, by rw [List.length_append]; exact HRW9.out, HCG9.out, HC9.out, HF9.out, by omega, HRN.out⟩
      · obtain rfl : q = y.length := by omega
        have hr := HR.out
        rw [List.drop_length] at hr
        rw [Nat.sub_self] at HL
        have HP2 := Lib.hid (nameRead_ok HP.out (hr.trans rfl))
        clear hr HR HP
        go_wp2_with fail
        refine HL.out.mono ?_
        rintro e w4 ⟨rfl, F4⟩
        have HF4 := Lib.hid (HF.out.trans (F4.mono (fun _ _ h => h.elim)))
        have HC4 := Lib.hid (HCC2.out.old F4)
        have HK4 := Lib.hid ((HRW.out.old F4).kept (by decide) (fun k => k < w.heap.size) (fun k hk => by omega))
        clear F4 HL HCC
        go_wp2_with fail
        refine bodyPost_ret (v := .tuple #[.slice a l.length cc, .int .i64 0]) (by simp [results, Tryz.results109, go_sem]) rfl ⟨?_, HF4.out⟩
        rw [HP2.out]
        exact ⟨a, cc, rfl, HK4.out.imp (fun W h => h.name), HC4.out.step (K' := K) (Fr.refl w4) (S := fun _ => False) (fun _ _ h => h.elim) (fun k hk => .inl (.inl hk))⟩
def nameReadOut (w w' : World) (c : Nat) (K : Nat → Prop) (bs : List UInt8) (p : Nat) (r : Except Int (List (List Part) × Nat)) (e : Ending) : Prop :=
  match r with
  | .ok (l, m) => ∃ a cc, e = .returned (.tuple #[.slice a l.length cc, .int .i64 0]) ∧ Kept (fun W => NameAt W (.slice a l.length cc) l) (fun k => k < w.heap.size) w' ∧ CurAt w' c K bs (p + m)
  | .error x => e = .returned (.tuple #[.slice none 0 0, .int .i64 x]) ∧ x ≠ 0 ∧ CurAt w' c K bs p
set_option maxRecDepth 20000 in
set_option maxHeartbeats 1000000 in
theorem nameRead_any {w : World} {c : Nat} {K : Nat → Prop} {bs : List UInt8} {p : Nat} (h : CurAt w c K bs p) (hbs : bs.length ≤ 10000000) :
    Calls Tryz.prog 62 #[pt c] w fun e w' => nameReadOut w w' c K bs p (nameReadS (bs.drop p)) e ∧ Fr (fun k => k = c) w w' := by
  have HA := Lib.hid (at_any h)
  have HN := Lib.hid (nameR_any h hbs)
  clear h
  go_enter Tryz.func62, Tryz.ntmps62
  go_wp2_with fail
  refine HA.out.mono ?_
  rintro e w0 ⟨rfl, rfl⟩
  go_wp2_with fail
  refine HN.out.mono ?_
  rintro e w1 ⟨hout, F1⟩
  have HF1 := Lib.hid F1
  clear HA HN F1
  unfold nameOut at hout
  cases hr : nameReadS (bs.drop p) with
  | error x =>
    rw [hr] at hout
    obtain ⟨rfl, hx, q, hq, C1⟩ := hout
    have hx1 : (x == 0) = false := beq_eq_false_iff_ne.2 hx
    have hx2 : (x != 0) = true := by simpa using hx
    have HB := Lib.hid (back_any C1 p hq)
    have HR := Lib.hid hr
    have HX := Lib.hid hx
    clear hr hx C1
    go_wp2_with fail
    refine HB.out.mono ?_
    rintro e w2 ⟨rfl, C2, F2⟩
    have HC2 := Lib.hid C2
    have HF2 := Lib.hid (HF1.out.trans F2)
    clear C2 F2 HB
    go_wp2_with fail
    refine bodyPost_ret (v := .tuple #[.slice none 0 0, .int .i64 x]) (by simp [results, Tryz.results62, go_sem]) rfl ⟨?_, HF2.out⟩
    rw [HR.out]
    exact ⟨rfl, HX.out, HC2.out⟩
  | ok lm =>
    obtain ⟨l, m⟩ := lm
    rw [hr] at hout
    obtain ⟨a, cc, rfl, hk, C1⟩ := hout
    have HK := Lib.hid hk
    have HC := Lib.hid C1
    have HR := Lib.hid hr
    clear hr hk C1
    go_wp2_with fail
    refine bodyPost_ret (v := .tuple #[.slice a l.length cc, .int .i64 0]) (by simp [results, Tryz.results62, go_sem]) rfl ⟨?_, HF1.out⟩
    rw [HR.out]
    exact ⟨a, cc, rfl, HK.out, HC.out⟩
def nameParseOut (w w' : World) (r : Except Int (List (List Part))) (e : Ending) : Prop :=
  match r with
  | .ok l => ∃ a cc, e = .returned (.tuple #[.slice a l.length cc, .int .i64 0]) ∧ Kept (fun W => NameAt W (.slice a l.length cc) l) (fun k => k < w.heap.size) w'
  | .error x => e = .returned (.tuple #[.slice none 0 0, .int .i64 x]) ∧ x ≠ 0
set_option maxRecDepth 20000 in
set_option maxHeartbeats 1000000 in
theorem nameParse_any (v : Value) (bs : List UInt8) (w : World) (h : Bytes w v bs) (hbs : bs.length ≤ 10000000) :
    Calls Tryz.prog 12 #[v] w fun e w' => nameParseOut w w' (nameParseS bs) e ∧ Fr (fun _ => False) w w' := by
  have hN := Lib.hid (new_any w v bs h (by omega))
  have HPS := Lib.hid (show nameParseS bs = match nameReadS bs with | .error e => .error e | .ok (n, k) => if k < bs.length then .error 7 else .ok n from rfl)
  clear h
  go_enter Tryz.func12, Tryz.ntmps12
  go_wp2_with fail
  refine hN.out.mono ?_
  rintro e w1 ⟨rfl, C1, F1⟩
  obtain ⟨c, hc⟩ : ∃ c, c = w.heap.size := ⟨_, rfl⟩
  have HF1 := Lib.hid F1
  have hs1 := F1.size
  have HX := Lib.hid (nameRead_any C1 hbs)
  rw [List.drop_zero] at HX
  rw [← hc] at HX ⊢
  have HC := Lib.hid hc
  clear C1 F1 hN hc
  go_wp2_with fail
  refine HX.out.mono ?_
  rintro e w2 ⟨hout, F2⟩
  have HF2 := Lib.hid (HF1.out.trans' F2 (fun i hi e => absurd hi (by rw [e, HC.out]; exact Nat.lt_irrefl _)))
  clear F2 HX HF1
  unfold nameReadOut at hout
  cases hr : nameReadS bs with
  | error x =>
    rw [hr] at hout
    obtain ⟨rfl, hx, -⟩ := hout
    have hx1 : (x == 0) = false := beq_eq_false_iff_ne.2 hx
    have hx2 : (x != 0) = true := by simpa using hx
    have hp := HPS.out
    rw [hr] at hp
    have HP := Lib.hid hp
    have HX := Lib.hid hx
    clear hr hx hp HPS
    go_wp2_with fail
    refine bodyPost_ret (v := .tuple #[.slice none 0 0, .int .i64 x]) (by simp [results, Tryz.results12, go_sem]) rfl ⟨?_, HF2.out⟩
    rw [HP.out]
    exact ⟨rfl, HX.out⟩
  | ok lm =>
    obtain ⟨l, m⟩ := lm
    rw [hr] at hout
    obtain ⟨a, cc, rfl, hk, C2⟩ := hout
    have hp := HPS.out
    rw [hr] at hp
    simp only at hp
    have HL := Lib.hid (left_any C2)
    rw [Nat.zero_add] at HL
    have HK := Lib.hid hk
    clear hr hk C2 HPS
    by_cases hm : m < bs.length
    · have q1 : (0 : Int) < ((bs.length - m : Nat) : Int) := by omega
      rw [if_pos hm] at hp
      have HP := Lib.hid hp
      clear hp hm
      generalize bs.length - m = lm at *
      go_wp2_with fail
      refine HL.out.mono ?_
      rintro e w3 ⟨rfl, F3⟩
      have HF3 := Lib.hid (HF2.out.trans F3)
      clear F3 HL
      go_wp2_with fail
      refine bodyPost_ret (v := .tuple #[.slice none 0 0, .int .i64 7]) (by simp [results, Tryz.results12, go_sem]) rfl ⟨?_, HF3.out⟩
      rw [HP.out]
      exact ⟨rfl, by decide⟩
    · have q1 : bs.length - m = 0 := by omega
      rw [if_neg hm] at hp
      have HP := Lib.hid hp
      rw [q1] at HL
      clear hp hm q1
      go_wp2_with fail
      refine HL.out.mono ?_
      rintro e w3 ⟨rfl, F3⟩
      have HF3 := Lib.hid (HF2.out.trans F3)
      have HK3 := Lib.hid (HK.out.old F3)
      clear F3 HL HK
      go_wp2_with fail
      refine bodyPost_ret (v := .tuple #[.slice a l.length cc, .int .i64 0]) (by simp [results, Tryz.results12, go_sem]) rfl ⟨?_, HF3.out⟩
      rw [HP.out]
      exact ⟨a, cc, rfl, fun W f => HK3.out W (f.mono (fun k _ hk => Nat.lt_of_lt_of_le hk hs1))⟩
end Go.Proofs.YtacekpdjapgfcaaGreatDoor

namespace Go.Proofs.YtacekpdjapgfcaaGreatDoor
open Go Go.RowKit Go.Q
set_option linter.unusedSimpArgs false
def rOidOut (w w' : World) (p : Nat) (r : Except Int (List Int × Nat)) (e : Ending) : Prop :=
  match r with
  | .error x => e = .returned (.tuple #[.slice none 0 0, .int .i64 p, .int .i64 x])
  | .ok (o, k) => ∃ a c, e = .returned (.tuple #[.slice a o.length c, .int .i64 ((p + k : Nat) : Int), .int .i64 0]) ∧ w'.ownsRow w.heap.size 3 1 (.slice a o.length c) o.length (intCells o)
end Go.Proofs.YtacekpdjapgfcaaGreatDoor

namespace Go.Proofs.YtacekpdjapgfcaaGreatDoor
open Go Go.RowKit Go.Q
set_option linter.unusedSimpArgs false
def rStepOut (K : Nat → Prop) (w' : World) (p : Nat) (r : Except Int (List Part × Nat)) (e : Ending) : Prop :=
  match r with
  | .error x => e = .returned (.tuple #[.slice none 0 0, .int .i64 p, .int .i64 x])
  | .ok (l, k) => ∃ a c, e = .returned (.tuple #[.slice a l.length c, .int .i64 ((p + k : Nat) : Int), .int .i64 0]) ∧ Kept (fun W => Attrs W (.slice a l.length c) l) K w'
end Go.Proofs.YtacekpdjapgfcaaGreatDoor

namespace Go.Q
open Go Go.RowKit
end Go.Q
namespace Go.Proofs.YtacekpdjapgfcaaGreatDoor
open Go Go.RowKit Go.Q
set_option linter.unusedSimpArgs false
def rNameOut (K : Nat → Prop) (w' : World) (p : Nat) (r : Except Int (List (List Part) × Nat)) (e : Ending) : Prop :=
  match r with
  | .error x => e = .returned (.tuple #[.slice none 0 0, .int .i64 p, .int .i64 x])
  | .ok (l, k) => ∃ a c, e = .returned (.tuple #[.slice a l.length c, .int .i64 ((p + k : Nat) : Int), .int .i64 0]) ∧ Kept (fun W => NameAt W (.slice a l.length c) l) K w'
def rParseOut (K : Nat → Prop) (w' : World) (r : Except Int (List (List Part))) (e : Ending) : Prop :=
  match r with
  | .error x => e = .returned (.tuple #[.slice none 0 0, .int .i64 x])
  | .ok l => ∃ a c, e = .returned (.tuple #[.slice a l.length c, .int .i64 0]) ∧ Kept (fun W => NameAt W (.slice a l.length c) l) K w'
end Go.Proofs.YtacekpdjapgfcaaGreatDoor
