/-
  Merged by program: XGenRl XR15L XGenTo XHostS XNStrS.
-/
import Derived.Test.YtacekpdjapgfcaaGreatDoorD0ar
import Derived.Test.YtacekpdjapgfcaaGreatDoorD0an
import Derived.Test.YtacekpdjapgfcaaGreatDoorD0am
import Derived.Test.YtacekpdjapgfcaaGreatDoorD0ai
import Derived.Test.YtacekpdjapgfcaaGreatDoorD0af
import Derived.Laws.Strings3
namespace Go.Proofs.YtacekpdjapgfcaaGreatDoor
open Go Go.RowKit Go.Q
set_option linter.unusedSimpArgs false
def genReadOut (w w' : World) (c : Nat) (K : Nat → Prop) (bs : List UInt8) (p : Nat) (r : Except Int (Gen × Nat)) (e : Ending) : Prop :=
  match r with
  | .ok (g, m) => ∃ ab cb an cn, e = .returned (.tuple #[.agg #[.int .i64 g.k, .slice ab g.b.length cb, .slice an g.n.length cn], .int .i64 0]) ∧ Kept (fun W => Bytes W (.slice ab g.b.length cb) g.b ∧ NameAt W (.slice an g.n.length cn) g.n) (fun k => k < w.heap.size) w' ∧ CurAt w' c K bs (p + m)
  | .error x => e = .returned (.tuple #[.agg #[.int .i64 0, .slice none 0 0, .slice none 0 0], .int .i64 x]) ∧ x ≠ 0 ∧ CurAt w' c K bs p
set_option maxRecDepth 20000 in
set_option maxHeartbeats 4000000 in
theorem keptGen_any {w : World} {c : Nat} {K : Nat → Prop} {bs : List UInt8} {p : Nat} (h : CurAt w c K bs p) (hbs : bs.length ≤ 10000000) :
    Calls Tryz.prog 71 #[pt c, .func (.func 72) #[] #[]] w fun e w' => genReadOut w w' c K bs p (genReadS (bs.drop p)) e ∧ Fr (fun k => k = c) w w' := by
  have hcl := h.lt
  obtain ⟨z, hz⟩ : ∃ z, z = w.heap.size := ⟨_, rfl⟩
  have F0 : Fr (fun _ => False) w (w.alloc (.cells #[.int .i64 0, .slice none 0 0, .slice none 0 0] 42)) := (Fr.refl w).alloc _
  have B0 := Blk.new w 42 #[.int .i64 0, .slice none 0 0, .slice none 0 0]
  have H := Lib.hid (h.step (K' := fun k => K k ∨ w.heap.size ≤ k) F0 (fun _ _ h => h.elim) (fun _ h => h))
  rw [← hz] at B0
  have hzc : z ≠ c := by omega
  have HZ := Lib.hid hz
  clear h hz
  go_enter Tryz.func71, Tryz.ntmps71
  go_upto_region 1 with fail
  rw [← HZ.out]
  generalize (w.alloc (.cells #[.int .i64 0, .slice none 0 0, .slice none 0 0] 42)) = w0 at *
  have HB0 := Lib.hid B0
  have hz0 := B0.lt
  have HF0 := Lib.hid (F0.mono (T := fun k => k = c) (fun _ _ h => h.elim))
  have hs0 := F0.size
  have HA := Lib.hid (at_any H.out)
  have HRD := Lib.hid (genR_any H.out hbs)
  clear F0 B0 H
  go_wp2_with fail
  refine HA.out.mono ?_
  rintro e w0' ⟨rfl, rfl⟩
  go_wp2_with fail
  refine HRD.out.mono ?_
  rintro e w1 ⟨hout, F1⟩
  have HF1 := Lib.hid (HF0.out.trans F1)
  have HB1 := Lib.hid (HB0.out.fr F1 hzc)
  have hs1 := F1.size
  have hlt1 := HB1.out.lt
  have EK : ∀ (W : World) (q : Nat), CurAt W c (fun k => K k ∨ w.heap.size ≤ k) bs q → CurAt W c K bs q := fun W q C => C.step (K' := K) (Fr.refl W) (S := fun _ => False) (fun _ _ h => h.elim) (fun k hk => .inl (.inl hk))
  have HEK := Lib.hid EK
  clear F1 HRD HF0 HB0 EK HA
  unfold genOut at hout
  cases hr : genReadS (bs.drop p) with
  | error x =>
    rw [hr] at hout
    obtain ⟨rfl, hx, q, hq, C1⟩ := hout
    have hx1 : (x == 0) = false := beq_eq_false_iff_ne.2 hx
    have hx2 : (x != 0) = true := by simpa using hx
    have HR := Lib.hid hr
    have HX := Lib.hid hx
    have F2 : Fr (fun _ => False) w1 ((w1.alloc (.cells #[.int .i64 0, .slice none 0 0, .slice none 0 0] 42)).alloc (.cells #[.int .i64 0, .slice none 0 0, .slice none 0 0] 42)) := ((Fr.refl w1).alloc _).alloc _
    have HB2 := Lib.hid (HB1.out.fr F2 (fun h => h))
    have HC2 := Lib.hid (C1.old F2)
    have HF2 := Lib.hid (HF1.out.trans (F2.mono (T := fun k => k = c) (fun _ _ h => h.elim)))
    obtain ⟨y, hy⟩ : ∃ y, y = w1.heap.size + 1 := ⟨_, rfl⟩
    have BY := Blk.new (w1.alloc (.cells #[.int .i64 0, .slice none 0 0, .slice none 0 0] 42)) 42 #[.int .i64 0, .slice none 0 0, .slice none 0 0]
    rw [World.size_alloc, ← hy] at BY
    have HBY := Lib.hid BY
    have hyz : y ≠ z := by omega
    have hyc : y ≠ c := by have := C1.lt; omega
    clear hr hx C1 F2 BY HB1 HF1
    go_upto_region 5 with fail
    try rw [World.size_alloc]
    rw [← hy]
    clear hy
    generalize ((w1.alloc (.cells #[.int .i64 0, .slice none 0 0, .slice none 0 0] 42)).alloc (.cells #[.int .i64 0, .slice none 0 0, .slice none 0 0] 42)) = w2 at *
    have HBK := Lib.hid (back_any HC2.out p hq)
    go_wp2_with fail
    refine HBK.out.mono ?_
    rintro e w3 ⟨rfl, C3, F3⟩
    have BZ := HB2.out.fr F3 hzc
    have BY := HBY.out.fr F3 hyc
    have z0 := BZ.cell 0
    have z1 := BZ.cell 1
    have z2 := BZ.cell 2
    have f0 := BZ.frozen 0
    have f1 := BZ.frozen 1
    have f2 := BZ.frozen 2
    have y0 := BY.cell 0
    have y1 := BY.cell 1
    have y2 := BY.cell 2
    obtain ⟨B5, F5⟩ := set3 BZ (.int .i64 0) (.slice none 0 0) (.slice none 0 0)
    have n0 := B5.cell 0
    have n1 := B5.cell 1
    have n2 := B5.cell 2
    simp only [List.getElem?_toArray, List.getElem?_cons_succ, List.getElem?_cons_zero] at z0 z1 z2 y0 y1 y2 n0 n1 n2
    have HC5 := Lib.hid (HEK.out _ _ (C3.step (K' := fun k => K k ∨ w.heap.size ≤ k) F5 (fun k _ e => .inr (by have := HZ.out; omega)) (fun _ h => .inl h)))
    have HF5 := Lib.hid ((HF2.out.trans F3).trans' F5 (fun i hi e => by have := HZ.out; omega))
    clear C3 F3 BZ BY B5 F5 HBK HC2 HB2 HBY
    go_wp2_with fail
    refine bodyPost_ret (v := .tuple #[.agg #[.int .i64 0, .slice none 0 0, .slice none 0 0], .int .i64 x]) (by simp [results, Tryz.results71, go_sem, n0, n1, n2]) rfl ⟨?_, HF5.out⟩
    rw [HR.out]
    exact ⟨rfl, HX.out, HC5.out⟩
  | ok gm =>
    obtain ⟨g, m⟩ := gm
    rw [hr] at hout
    obtain ⟨ab, cb, an, cn, rfl, hk, C1⟩ := hout
    have HR := Lib.hid hr
    have F2 : Fr (fun _ => False) w1 (w1.alloc (.cells #[.int .i64 g.k, .slice ab g.b.length cb, .slice an g.n.length cn] 42)) := (Fr.refl w1).alloc _
    have HB2 := Lib.hid (HB1.out.fr F2 (fun h => h))
    have HC2 := Lib.hid (C1.old F2)
    have HF2 := Lib.hid (HF1.out.trans (F2.mono (T := fun k => k = c) (fun _ _ h => h.elim)))
    have HK2 := Lib.hid (hk.old F2)
    obtain ⟨y, hy⟩ : ∃ y, y = w1.heap.size := ⟨_, rfl⟩
    have BY := Blk.new w1 42 #[.int .i64 g.k, .slice ab g.b.length cb, .slice an g.n.length cn]
    rw [← hy] at BY
    have HBY := Lib.hid BY
    clear hr hk C1 F2 BY HB1 HF1
    go_upto_region 3 with fail
    rw [← hy]
    clear hy
    generalize (w1.alloc (.cells #[.int .i64 g.k, .slice ab g.b.length cb, .slice an g.n.length cn] 42)) = w2 at *
    have BZ := HB2.out
    have BY := HBY.out
    have z0 := BZ.cell 0
    have z1 := BZ.cell 1
    have z2 := BZ.cell 2
    have f0 := BZ.frozen 0
    have f1 := BZ.frozen 1
    have f2 := BZ.frozen 2
    have y0 := BY.cell 0
    have y1 := BY.cell 1
    have y2 := BY.cell 2
    obtain ⟨B5, F5⟩ := set3 BZ (.int .i64 g.k) (.slice ab g.b.length cb) (.slice an g.n.length cn)
    have n0 := B5.cell 0
    have n1 := B5.cell 1
    have n2 := B5.cell 2
    simp only [List.getElem?_toArray, List.getElem?_cons_succ, List.getElem?_cons_zero] at z0 z1 z2 y0 y1 y2 n0 n1 n2
    have HC5 := Lib.hid (HEK.out _ _ (HC2.out.step (K' := fun k => K k ∨ w.heap.size ≤ k) F5 (fun k _ e => .inr (by have := HZ.out; omega)) (fun _ h => .inl h)))
    have HF5 := Lib.hid (HF2.out.trans' F5 (fun i hi e => by have := HZ.out; omega))
    have HK5 := Lib.hid (HK2.out.step (K' := fun k => k < w.heap.size) F5 (fun k _ e => by omega) (fun k hk => .inl (by omega)))
    clear BZ BY B5 F5 HC2 HB2 HBY HK2
    go_wp2_with fail
    refine bodyPost_ret (v := .tuple #[.agg #[.int .i64 g.k, .slice ab g.b.length cb, .slice an g.n.length cn], .int .i64 0]) (by simp [results, Tryz.results71, go_sem, n0, n1, n2]) rfl ⟨?_, HF5.out⟩
    rw [HR.out]
    exact ⟨ab, cb, an, cn, rfl, HK5.out, HC5.out⟩
set_option maxRecDepth 20000 in
set_option maxHeartbeats 2000000 in
theorem genRead_any {w : World} {c : Nat} {K : Nat → Prop} {bs : List UInt8} {p : Nat} (h : CurAt w c K bs p) (hbs : bs.length ≤ 10000000) :
    Calls Tryz.prog 19 #[pt c] w fun e w' => genReadOut w w' c K bs p (genReadS (bs.drop p)) e ∧ Fr (fun k => k = c) w w' := by
  have hcl := h.lt
  obtain ⟨z, hz⟩ : ∃ z, z = w.heap.size := ⟨_, rfl⟩
  have F0 : Fr (fun _ => False) w (w.alloc (.cells #[.int .i64 0, .slice none 0 0, .slice none 0 0] 42)) := (Fr.refl w).alloc _
  have B0 := Blk.new w 42 #[.int .i64 0, .slice none 0 0, .slice none 0 0]
  have H := Lib.hid (h.step (K' := fun k => K k ∨ w.heap.size ≤ k) F0 (fun _ _ h => h.elim) (fun _ h => h))
  rw [← hz] at B0
  have hzc : z ≠ c := by omega
  have HZ := Lib.hid hz
  clear h hz
  go_enter Tryz.func19, Tryz.ntmps19
  go_upto_region 1 with fail
  rw [← HZ.out]
  generalize (w.alloc (.cells #[.int .i64 0, .slice none 0 0, .slice none 0 0] 42)) = w0 at *
  have HB0 := Lib.hid B0
  have hz0 := B0.lt
  have hs0 := F0.size
  have HF0 := Lib.hid (F0.mono (T := fun k => k = c) (fun _ _ h => h.elim))
  have HRD := Lib.hid (keptGen_any H.out hbs)
  clear F0 B0 H
  go_wp2_with fail
  refine HRD.out.mono ?_
  rintro e w1 ⟨hout, F1⟩
  have HF1 := Lib.hid (HF0.out.trans F1)
  have BZ := HB0.out.fr F1 hzc
  have EK : ∀ (W : World) (q : Nat), CurAt W c (fun k => K k ∨ w.heap.size ≤ k) bs q → CurAt W c K bs q := fun W q C => C.step (K' := K) (Fr.refl W) (S := fun _ => False) (fun _ _ h => h.elim) (fun k hk => .inl (.inl hk))
  have HEK := Lib.hid EK
  have z0 := BZ.cell 0
  have z1 := BZ.cell 1
  have z2 := BZ.cell 2
  have f0 := BZ.frozen 0
  have f1 := BZ.frozen 1
  have f2 := BZ.frozen 2
  clear F1 HRD HF0 HB0 EK
  unfold genReadOut at hout
  cases hr : genReadS (bs.drop p) with
  | error x =>
    rw [hr] at hout
    obtain ⟨rfl, hx, C1⟩ := hout
    have HR := Lib.hid hr
    have HX := Lib.hid hx
    obtain ⟨B5, F5⟩ := set3 BZ (.int .i64 0) (.slice none 0 0) (.slice none 0 0)
    have n0 := B5.cell 0
    have n1 := B5.cell 1
    have n2 := B5.cell 2
    simp only [List.getElem?_toArray, List.getElem?_cons_succ, List.getElem?_cons_zero] at z0 z1 z2 n0 n1 n2
    have HC5 := Lib.hid (HEK.out _ _ (C1.step (K' := fun k => K k ∨ w.heap.size ≤ k) F5 (fun k _ e => .inr (by have := HZ.out; omega)) (fun _ h => .inl h)))
    have HF5 := Lib.hid (HF1.out.trans' F5 (fun i hi e => by have := HZ.out; omega))
    clear hr hx C1 BZ B5 F5
    go_wp2_with fail
    refine bodyPost_ret (v := .tuple #[.agg #[.int .i64 0, .slice none 0 0, .slice none 0 0], .int .i64 x]) (by simp [results, Tryz.results19, go_sem, n0, n1, n2]) rfl ⟨?_, HF5.out⟩
    rw [HR.out]
    exact ⟨rfl, HX.out, HC5.out⟩
  | ok gm =>
    obtain ⟨g, m⟩ := gm
    rw [hr] at hout
    obtain ⟨ab, cb, an, cn, rfl, hk, C1⟩ := hout
    have HR := Lib.hid hr
    obtain ⟨B5, F5⟩ := set3 BZ (.int .i64 g.k) (.slice ab g.b.length cb) (.slice an g.n.length cn)
    have n0 := B5.cell 0
    have n1 := B5.cell 1
    have n2 := B5.cell 2
    simp only [List.getElem?_toArray, List.getElem?_cons_succ, List.getElem?_cons_zero] at z0 z1 z2 n0 n1 n2
    have HC5 := Lib.hid (HEK.out _ _ (C1.step (K' := fun k => K k ∨ w.heap.size ≤ k) F5 (fun k _ e => .inr (by have := HZ.out; omega)) (fun _ h => .inl h)))
    have HF5 := Lib.hid (HF1.out.trans' F5 (fun i hi e => by have := HZ.out; omega))
    have HK5 := Lib.hid (hk.step (K' := fun k => k < w.heap.size) F5 (fun k _ e => by omega) (fun k hk => .inl (by omega)))
    clear hr hk C1 BZ B5 F5
    go_wp2_with fail
    refine bodyPost_ret (v := .tuple #[.agg #[.int .i64 g.k, .slice ab g.b.length cb, .slice an g.n.length cn], .int .i64 0]) (by simp [results, Tryz.results19, go_sem, n0, n1, n2]) rfl ⟨?_, HF5.out⟩
    rw [HR.out]
    exact ⟨ab, cb, an, cn, rfl, HK5.out, HC5.out⟩
theorem info42 : (Tryz.prog.info? 42).map (fun i => (i.zero, i.size, i.bytes)) = some (some (.agg #[.int .i64 0, .slice none 0 0, .slice none 0 0]), 3, 56) := by kernel_rfl
def gensOut (w w' : World) (c : Nat) (K : Nat → Prop) (bs : List UInt8) (p : Nat) (r : Except Int (List Gen × Nat)) (e : Ending) : Prop :=
  match r with
  | .ok (l, m) => ∃ a cc, e = .returned (.tuple #[.slice a l.length cc, .int .i64 0]) ∧ Kept (fun W => Gens W (.slice a l.length cc) l) (fun k => k < w.heap.size) w' ∧ CurAt w' c K bs (p + m)
  | .error x => e = .returned (.tuple #[.slice none 0 0, .int .i64 x]) ∧ x ≠ 0 ∧ ∃ q, p ≤ q ∧ CurAt w' c K bs q
def gensReadOut (w w' : World) (c : Nat) (K : Nat → Prop) (bs : List UInt8) (p : Nat) (r : Except Int (List Gen × Nat)) (e : Ending) : Prop :=
  match r with
  | .ok (l, m) => ∃ a cc, e = .returned (.tuple #[.slice a l.length cc, .int .i64 0]) ∧ Kept (fun W => Gens W (.slice a l.length cc) l) (fun k => k < w.heap.size) w' ∧ CurAt w' c K bs (p + m)
  | .error x => e = .returned (.tuple #[.slice none 0 0, .int .i64 x]) ∧ x ≠ 0 ∧ CurAt w' c K bs p
def genAllR (l : List UInt8) : Except Int (List Gen × Nat) := match genAllS l with | .error e => .error e | .ok gs => .ok (gs, l.length)
set_option maxRecDepth 20000 in
set_option maxHeartbeats 4000000 in
theorem all_any {w : World} {c : Nat} {K : Nat → Prop} {bs : List UInt8} {p : Nat} (h : CurAt w c K bs p) (hbs : bs.length ≤ 10000000) :
    Calls Tryz.prog 77 #[pt c] w fun e w' => gensOut w w' c K bs p (genAllR (bs.drop p)) e ∧ Fr (fun k => k = c) w w' := by
  have H := Lib.hid (h.step (K' := fun k => K k ∨ w.heap.size ≤ k) (Fr.refl (S := fun _ => False) w) (fun _ _ h => h.elim) (fun _ h => h))
  have EK : ∀ (W : World) (q : Nat), CurAt W c (fun k => K k ∨ w.heap.size ≤ k) bs q → CurAt W c K bs q := fun W q C => C.step (K' := K) (Fr.refl W) (S := fun _ => False) (fun _ _ h => h.elim) (fun k hk => .inl (.inl hk))
  have HEK := Lib.hid EK
  have hle := h.le
  have hcl := h.lt
  have HL0 := Lib.hid (left_any H.out)
  have er : ∀ x, genAllS (bs.drop p) = .error x → genAllR (bs.drop p) = .error x := fun x h => by unfold genAllR; rw [h]
  have ok : ∀ gs, genAllS (bs.drop p) = .ok gs → genAllR (bs.drop p) = .ok (gs, bs.length - p) := fun gs h => by unfold genAllR; rw [h, List.length_drop]
  have HER := Lib.hid er
  have HOK := Lib.hid ok
  clear h EK er ok
  go_enter Tryz.func77, Tryz.ntmps77
  go_wp2_with fail
  refine HL0.out.mono ?_
  rintro e w1 ⟨rfl, F1⟩
  have HC1 := Lib.hid (H.out.old F1)
  have HF1 := Lib.hid (F1.mono (T := fun k => k = c) (fun _ _ h => h.elim))
  have hs1 := F1.size
  clear F1 HL0 H
  rcases Nat.lt_or_ge p bs.length with hpl | hpl
  case inr =>
    have hz : bs.length - p = 0 := by omega
    have hx : genAllS (bs.drop p) = .error 6 := by unfold genAllS; rw [if_pos (List.drop_eq_nil_of_le hpl)]
    have HX := Lib.hid (HER.out 6 hx)
    rw [hz]
    clear hx hz
    go_wp2_with fail
    refine bodyPost_ret (v := .tuple #[.slice none 0 0, .int .i64 6]) (by simp [results, Tryz.results77, go_sem]) rfl ⟨?_, HF1.out⟩
    rw [HX.out]
    exact ⟨rfl, by decide, p, Nat.le_refl _, HEK.out _ _ HC1.out⟩
  have hz : (((bs.length - p : Nat) : Int) == 0) = false := beq_eq_false_iff_ne.2 (by omega)
  have hz2 : (bs.length - p == 0) = false := beq_eq_false_iff_ne.2 (by omega)
  have hst : genAllS (bs.drop p) = genSt [] (bs.drop p) := by unfold genAllS; rw [if_neg (fun e => by have := drop_nil e; omega)]
  have HST := Lib.hid hst
  clear hst
  generalize hlq : bs.length - p = lq at *
  have HLQ := Lib.hid hlq
  clear hlq
  go_wp2_with fail
  go_loopg [4] (bs.length - p) (fun gk u wr => ∃ (l : List Gen) (q : Nat) (a : Option Addr) (cc : Nat), gk = bs.length - q ∧ p ≤ q ∧ q ≤ bs.length ∧ l.length ≤ 10000 ∧ u = .slice a l.length cc ∧ GRow 3 RGen (fun k => k < w.heap.size) 42 wr w.heap.size (.slice a l.length cc) l ∧ CurAt wr c (fun k => K k ∨ w.heap.size ≤ k) bs q ∧ Fr (fun k => k = c) w wr ∧ genSt [] (bs.drop p) = genSt l (bs.drop q))
  case atStart => exact ⟨[], p, none, 0, rfl, Nat.le_refl _, hle, by simp, rfl, GRow.nil _ _ _ _ _ _, HC1.out, HF1.out, rfl⟩
  case round =>
    obtain ⟨l, q, a, cc, hgk, hpq, hq, hl, rfl, hrow, hC, hF, hR⟩ := hrel
    have HG := Lib.hid hgk
    have HRW := Lib.hid hrow
    have HC := Lib.hid hC
    have HF := Lib.hid hF
    have HR := Lib.hid hR
    have HL := Lib.hid (left_any hC)
    clear hgk hrow hC hF hR HC1 HF1
    by_cases hql : q < bs.length
    · have q1 : (0 : Int) < ((bs.length - q : Nat) : Int) := by omega
      have hne : bs.drop q ≠ [] := fun e => by have := drop_nil e; omega
      have HNE := Lib.hid hne
      clear hne
      obtain ⟨lr, hlr⟩ : ∃ lr, lr = bs.length - q := ⟨_, rfl⟩
      rw [← hlr] at q1 HL HG
      have HLR := Lib.hid hlr
      clear hlr
      by_cases hfull : l.length = 10000
      · have q3 : ((l.length : Int) == 10000) = true := by rw [hfull]; rfl
        have q4 : (l.length == 10000) = true := by rw [hfull]; rfl
        have HX := Lib.hid (HER.out 2 (HST.out.trans (HR.out.trans (manySt_full HNE.out hfull))))
        clear hfull
        go_wp2_with fail
        refine HL.out.mono ?_
        rintro e w4 ⟨rfl, F4⟩
        have HF4 := Lib.hid (HF.out.trans (F4.mono (fun _ _ h => h.elim)))
        have HC4 := Lib.hid (HC.out.old F4)
        clear F4 HL
        go_wp2_with fail
        refine bodyPost_ret (v := .tuple #[.slice none 0 0, .int .i64 2]) (by simp [results, Tryz.results77, go_sem]) rfl ⟨?_, HF4.out⟩
        rw [HX.out]
        exact ⟨rfl, by decide, q, hpq, HEK.out _ _ HC4.out⟩
      · have q3 : ((l.length : Int) == 10000) = false := beq_eq_false_iff_ne.2 (by omega)
        have q4 : (l.length == 10000) = false := beq_eq_false_iff_ne.2 hfull
        have hl2 : l.length < 10000 := by omega
        have HFU := Lib.hid hfull
        clear hfull
        go_wp2_with fail
        refine HL.out.mono ?_
        rintro e w4 ⟨rfl, F4⟩
        have HF4 := Lib.hid (HF.out.trans (F4.mono (fun _ _ h => h.elim)))
        have HC4 := Lib.hid (HC.out.old F4)
        have HRW4 := Lib.hid (HRW.out.old F4)
        clear F4 HL HRW HF HC
        have HRD := Lib.hid (genR_any HC4.out hbs)
        go_wp2_with fail
        refine HRD.out.mono ?_
        rintro e w5 ⟨hout, F5⟩
        have hcw : ∀ k, k = c → k < w.heap.size := fun k e => by omega
        have HRW5 := Lib.hid (HRW4.out.fr F5 (fun k _ e => hcw k e) (fun k hk e => by have := (HRW4.out.keep k hk).1; omega))
        have hs4 := HF4.out.size
        have HF5 := Lib.hid (HF4.out.trans F5)
        have HK4 := Lib.hid (fun k hk => (HRW4.out.keep k hk).2)
        clear F5 HRD HRW4 HF4 HC4
        unfold genOut at hout
        cases hr : genReadS (bs.drop q) with
        | error x =>
          rw [hr] at hout
          obtain ⟨rfl, hx, q', hq', C5⟩ := hout
          have hx1 : (x == 0) = false := beq_eq_false_iff_ne.2 hx
          have hx2 : (x != 0) = true := by simpa using hx
          have HX := Lib.hid (HER.out x (HST.out.trans (HR.out.trans (manySt_err HNE.out HFU.out hr))))
          have HXX := Lib.hid hx
          have F6 : Fr (fun _ => False) w5 (w5.alloc (.cells #[.int .i64 0, .slice none 0 0, .slice none 0 0] 42)) := (Fr.refl w5).alloc _
          have HC6 := Lib.hid (C5.old F6)
          have HF6 := Lib.hid (HF5.out.trans (F6.mono (T := fun k => k = c) (fun _ _ h => h.elim)))
          clear hr hx C5 F6
          go_wp2_with fail
          refine bodyPost_ret (v := .tuple #[.slice none 0 0, .int .i64 x]) (by simp [results, Tryz.results77, go_sem]) rfl ⟨?_, HF6.out⟩
          rw [HX.out]
          exact ⟨rfl, HXX.out, q', by omega, HEK.out _ _ HC6.out⟩
        | ok gm =>
          obtain ⟨g, m⟩ := gm
          rw [hr] at hout
          obtain ⟨ab, cb, an, cn, rfl, hk, C5⟩ := hout
          have hgp := genRead_pos _ _ _ hr
          have hle5 := C5.le
          have HRN := Lib.hid (HR.out.trans (manySt_ok genRead_pos HNE.out HFU.out hr))
          obtain ⟨y, hy⟩ : ∃ y, y = w5.heap.size := ⟨_, rfl⟩
          have F6 : Fr (fun _ => False) w5 (w5.alloc (.cells #[.int .i64 g.k, .slice ab g.b.length cb, .slice an g.n.length cn] 42)) := (Fr.refl w5).alloc _
          have BY := Blk.new w5 42 #[.int .i64 g.k, .slice ab g.b.length cb, .slice an g.n.length cn]
          rw [← hy] at BY
          have HC6 := Lib.hid (C5.old F6)
          have HF6 := Lib.hid (HF5.out.trans (F6.mono (T := fun k => k = c) (fun _ _ h => h.elim)))
          have HRW6 := Lib.hid (HRW5.out.old F6)
          have HK6 := Lib.hid (hk.old F6)
          have hkl := HRW5.out.keep
          have HKL := Lib.hid (fun k hk => hkl k hk)
          clear hr hk C5 F6 HF5 HRW5 hkl
          go_upto_region 10 with fail
          rw [← hy]
          clear hy
          generalize (w5.alloc (.cells #[.int .i64 g.k, .slice ab g.b.length cb, .slice an g.n.length cn] 42)) = w6 at *
          have y0 := BY.cell 0
          have y1 := BY.cell 1
          have y2 := BY.cell 2
          simp only [List.getElem?_toArray, List.getElem?_cons_succ, List.getElem?_cons_zero] at y0 y1 y2
          obtain ⟨a7, c7, w7, hrun, hrow7, F7, -⟩ := HRW6.out.add (s := 49) Tryz.underlying49 info42 rfl (by decide) (by decide) HF6.out.size ((Fr.refl w6).alloc (.cells #[.int .i64 g.k, .slice ab g.b.length cb, .slice an g.n.length cn] 42)) w6.heap.size [.int .i64 g.k, .slice ab g.b.length cb, .slice an g.n.length cn] rfl (Blk.new w6 42 #[.int .i64 g.k, .slice ab g.b.length cb, .slice an g.n.length cn]) (by simp [Value.oneCell']) g ((HK6.out.weaken (fun k hk => by
            rcases hk with hk | hk
            · exact HK4.out k hk
            · omega)).imp (fun W h => ⟨_, _, rfl, h.1, h.2⟩)) (by omega)
          have HRUN := Lib.hid hrun
          have HRW7 := Lib.hid hrow7
          have HC7 := Lib.hid (HC6.out.step (K' := fun k => K k ∨ w.heap.size ≤ k) F7 (fun k _ e => .inr (HKL.out k e).1) (fun _ h => .inl h))
          have HF7 := Lib.hid (HF6.out.trans' F7 (fun i hi e => absurd hi (by have := (HKL.out i e).1; omega)))
          clear hrun hrow7 F7 HC6 HF6 HK6 HRW6 BY
          go_wp2_with (at_builtin; refine wpList_append_run (by rfl) (.tmp 26) (.tmp 28) 49 (by rfl) _ w7 (by exact HRUN.out) ?_)
          go_roundg (bs.length - (q + m))
          case measure => rw [HG.out, HLR.out]; omega
          case rel => exact ⟨l ++ [g], q + m, a7, c7, rfl, by omega, hle5, by rw [List.length_append]; exact hl2, by rw [List.length_append]; rfl, by rw [List.length_append]; exact HRW7.out, HC7.out, HF7.out, by rw [HRN.out, List.drop_drop]; rfl⟩
    · obtain rfl : q = bs.length := by omega
      have hr := HR.out
      rw [List.drop_length] at hr
      have HX := Lib.hid (HOK.out l (HST.out.trans (hr.trans rfl)))
      rw [Nat.sub_self] at HL
      clear hr
      go_wp2_with fail
      refine HL.out.mono ?_
      rintro e w4 ⟨rfl, F4⟩
      have HF4 := Lib.hid (HF.out.trans (F4.mono (fun _ _ h => h.elim)))
      have HC4 := Lib.hid (HEK.out _ _ (HC.out.old F4))
      have HK4 := Lib.hid ((HRW.out.old F4).kept (by decide) (fun k => k < w.heap.size) (fun k hk => ⟨hk, hk⟩))
      clear F4 HL
      go_wp2_with fail
      refine bodyPost_ret (v := .tuple #[.slice a l.length cc, .int .i64 0]) (by simp [results, Tryz.results77, go_sem]) rfl ⟨?_, HF4.out⟩
      rw [HX.out, HLQ.out.symm]
      exact ⟨a, cc, rfl, HK4.out, by rw [show p + (bs.length - p) = bs.length by omega]; exact HC4.out⟩
theorem listR_err {l : List UInt8} {x : Int} (h : openS (tagOf 16) l = .error x) : genListS l = .error x := by unfold genListS; rw [h]
theorem listR_err2 {l y : List UInt8} {k : Nat} {x : Int} (h : openS (tagOf 16) l = .ok (y, k)) (h2 : genAllS y = .error x) : genListS l = .error x := by unfold genListS; rw [h]; simp only [h2]
theorem listR_ok {l y : List UInt8} {k : Nat} {gs : List Gen} (h : openS (tagOf 16) l = .ok (y, k)) (h2 : genAllS y = .ok gs) : genListS l = .ok (gs, k) := by unfold genListS; rw [h]; simp only [h2]
set_option maxRecDepth 20000 in
set_option maxHeartbeats 2000000 in
theorem list1_any {w : World} {c : Nat} {K : Nat → Prop} {bs : List UInt8} {p : Nat} (h : CurAt w c K bs p) (hbs : bs.length ≤ 10000000) :
    Calls Tryz.prog 78 #[pt c] w fun e w' => gensOut w w' c K bs p (genListS (bs.drop p)) e ∧ Fr (fun k => k = c) w w' := by
  have H := Lib.hid (h.step (K' := fun k => K k ∨ w.heap.size ≤ k) (Fr.refl (S := fun _ => False) w) (fun _ _ h => h.elim) (fun _ h => h))
  have EK : ∀ (W : World) (q : Nat), CurAt W c (fun k => K k ∨ w.heap.size ≤ k) bs q → CurAt W c K bs q := fun W q C => C.step (K' := K) (Fr.refl W) (S := fun _ => False) (fun _ _ h => h.elim) (fun k hk => .inl (.inl hk))
  have HEK := Lib.hid EK
  have hcl := h.lt
  clear h EK
  go_enter Tryz.func78, Tryz.ntmps78
  go_wp2_with fail
  refine (headOf_any 16 w).mono ?_
  rintro e w1 ⟨rfl, F1⟩
  have HC1 := Lib.hid (H.out.old F1)
  have HF1 := Lib.hid (F1.mono (T := fun k => k = c) (fun _ _ h => h.elim))
  have hs1 := F1.size
  clear F1 H
  cases ho : openS (tagOf 16) (bs.drop p) with
  | error x =>
    have hx := openS_nz ho
    have hx1 : (x == 0) = false := beq_eq_false_iff_ne.2 hx
    have hx2 : (x != 0) = true := by simpa using hx
    have HP := Lib.hid (listR_err ho)
    have HX := Lib.hid hx
    have HE := Lib.hid (open_err HC1.out (tagOf 16) ho)
    clear ho hx
    go_wp2_with fail
    refine HE.out.mono ?_
    rintro e w2 ⟨rfl, C2, F2⟩
    have HC2 := Lib.hid (HEK.out _ _ C2)
    have HF2 := Lib.hid (HF1.out.trans F2)
    clear C2 F2 HE
    go_wp2_with fail
    refine bodyPost_ret (v := .tuple #[.slice none 0 0, .int .i64 x]) (by simp [results, Tryz.results78, go_sem]) rfl ⟨?_, HF2.out⟩
    rw [HP.out]
    exact ⟨rfl, HX.out, p, Nat.le_refl _, HC2.out⟩
  | ok yk =>
    obtain ⟨y, k⟩ := yk
    obtain ⟨-, -, hb3, hb4⟩ := open_back ho tag16
    rw [List.length_drop] at hb3
    have HO := Lib.hid ho
    have HE := Lib.hid (open_on HC1.out (tagOf 16) ho)
    have hyl : y.length ≤ 10000000 := by omega
    clear ho hb3 hb4
    go_wp2_with fail
    refine HE.out.mono ?_
    rintro e w2 ⟨⟨g, rfl, ⟨hg, hN⟩, C2⟩, F2⟩
    have HA := Lib.hid (all_any hN hyl)
    rw [List.drop_zero] at HA
    have HC2 := Lib.hid C2
    have HF2 := Lib.hid (HF1.out.trans F2)
    have hs2 := F2.size
    have hgw : w.heap.size ≤ g := by omega
    clear C2 F2 HE hN
    go_wp2_with fail
    refine HA.out.mono ?_
    rintro e w3 ⟨hout, F3⟩
    have HC3 := Lib.hid (HEK.out _ _ (HC2.out.step (K' := fun k => K k ∨ w.heap.size ≤ k) F3 (fun k _ e => .inr (by omega)) (fun _ h => .inl h)))
    have HF3 := Lib.hid (HF2.out.trans' F3 (fun i hi e => absurd hi (by omega)))
    clear F3 HA
    unfold gensOut genAllR at hout
    cases hr : genAllS y with
    | error x =>
      rw [hr] at hout
      obtain ⟨rfl, hx, -⟩ := hout
      have HP := Lib.hid (listR_err2 HO.out hr)
      have HX := Lib.hid hx
      clear hr hx
      go_wp2_with fail
      refine bodyPost_ret (v := .tuple #[.slice none 0 0, .int .i64 x]) (by simp [results, Tryz.results78, go_sem]) rfl ⟨?_, HF3.out⟩
      rw [HP.out]
      exact ⟨rfl, HX.out, p + k, by omega, HC3.out⟩
    | ok gs =>
      rw [hr] at hout
      obtain ⟨a, cc, rfl, hk, -⟩ := hout
      have HP := Lib.hid (listR_ok HO.out hr)
      have HK := Lib.hid (hk.weaken (K' := fun k => k < w.heap.size) (fun k hk => by omega))
      clear hr hk
      go_wp2_with fail
      refine bodyPost_ret (v := .tuple #[.slice a gs.length cc, .int .i64 0]) (by simp [results, Tryz.results78, go_sem]) rfl ⟨?_, HF3.out⟩
      rw [HP.out]
      exact ⟨a, cc, rfl, HK.out, HC3.out⟩
set_option maxRecDepth 20000 in
set_option maxHeartbeats 4000000 in
theorem keptGens_any {w : World} {c : Nat} {K : Nat → Prop} {bs : List UInt8} {p : Nat} (h : CurAt w c K bs p) (hbs : bs.length ≤ 10000000) (F : Nat) (r : Except Int (List Gen × Nat)) (hF : (F = 77 ∧ r = genAllR (bs.drop p)) ∨ (F = 78 ∧ r = genListS (bs.drop p))) :
    Calls Tryz.prog 76 #[pt c, .func (.func F) #[] #[]] w fun e w' => gensReadOut w w' c K bs p r e ∧ Fr (fun k => k = c) w w' := by
  have HA := Lib.hid (at_any h)
  rcases hF with ⟨rfl, rfl⟩ | ⟨rfl, rfl⟩
  case' inl =>
    have HRD := Lib.hid (all_any h hbs)
    generalize genAllR (bs.drop p) = r at *
  case' inr =>
    have HRD := Lib.hid (list1_any h hbs)
    generalize genListS (bs.drop p) = r at *
  all_goals
    clear h
    go_enter Tryz.func76, Tryz.ntmps76
    go_wp2_with fail
    refine HA.out.mono ?_
    rintro e w0' ⟨rfl, rfl⟩
    go_wp2_with fail
    refine HRD.out.mono ?_
    rintro e w1 ⟨hout, F1⟩
    have HF1 := Lib.hid F1
    clear F1 HRD HA
    unfold gensOut at hout
    cases r with
    | error x =>
      obtain ⟨rfl, hx, q, hq, C1⟩ := hout
      have hx1 : (x == 0) = false := beq_eq_false_iff_ne.2 hx
      have hx2 : (x != 0) = true := by simpa using hx
      have HX := Lib.hid hx
      have HBK := Lib.hid (back_any C1 p hq)
      clear hx C1
      go_wp2_with fail
      refine HBK.out.mono ?_
      rintro e w3 ⟨rfl, C3, F3⟩
      have HC3 := Lib.hid C3
      have HF3 := Lib.hid (HF1.out.trans F3)
      clear C3 F3 HBK
      go_wp2_with fail
      refine bodyPost_ret (v := .tuple #[.slice none 0 0, .int .i64 x]) (by simp [results, Tryz.results76, go_sem]) rfl ⟨?_, HF3.out⟩
      exact ⟨rfl, HX.out, HC3.out⟩
    | ok lm =>
      obtain ⟨l, m⟩ := lm
      obtain ⟨a, cc, rfl, hk, C1⟩ := hout
      have HK := Lib.hid hk
      have HC := Lib.hid C1
      clear hk C1
      go_wp2_with fail
      refine bodyPost_ret (v := .tuple #[.slice a l.length cc, .int .i64 0]) (by simp [results, Tryz.results76, go_sem]) rfl ⟨?_, HF1.out⟩
      exact ⟨a, cc, rfl, HK.out, HC.out⟩
set_option maxRecDepth 20000 in
set_option maxHeartbeats 1000000 in
theorem readAll_any {w : World} {c : Nat} {K : Nat → Prop} {bs : List UInt8} {p : Nat} (h : CurAt w c K bs p) (hbs : bs.length ≤ 10000000) :
    Calls Tryz.prog 21 #[pt c] w fun e w' => gensReadOut w w' c K bs p (genAllR (bs.drop p)) e ∧ Fr (fun k => k = c) w w' := by
  have HK := Lib.hid (keptGens_any h hbs 77 _ (.inl ⟨rfl, rfl⟩))
  clear h
  generalize genAllR (bs.drop p) = r at *
  go_enter Tryz.func21, Tryz.ntmps21
  go_wp2_with fail
  refine HK.out.mono ?_
  rintro e w1 ⟨hout, F1⟩
  have HO := Lib.hid (And.intro hout F1)
  unfold gensReadOut at hout
  cases r with
  | error x =>
    obtain ⟨rfl, -⟩ := hout
    clear F1
    go_wp2_with fail
    exact bodyPost_ret (v := .tuple #[.slice none 0 0, .int .i64 x]) (by simp [results, Tryz.results21, go_sem]) rfl HO.out
  | ok lm =>
    obtain ⟨l, m⟩ := lm
    obtain ⟨a, cc, rfl, -⟩ := hout
    clear F1
    go_wp2_with fail
    exact bodyPost_ret (v := .tuple #[.slice a l.length cc, .int .i64 0]) (by simp [results, Tryz.results21, go_sem]) rfl HO.out
set_option maxRecDepth 20000 in
set_option maxHeartbeats 1000000 in
theorem readList_any {w : World} {c : Nat} {K : Nat → Prop} {bs : List UInt8} {p : Nat} (h : CurAt w c K bs p) (hbs : bs.length ≤ 10000000) :
    Calls Tryz.prog 23 #[pt c] w fun e w' => gensReadOut w w' c K bs p (genListS (bs.drop p)) e ∧ Fr (fun k => k = c) w w' := by
  have HK := Lib.hid (keptGens_any h hbs 78 _ (.inr ⟨rfl, rfl⟩))
  clear h
  generalize genListS (bs.drop p) = r at *
  go_enter Tryz.func23, Tryz.ntmps23
  go_wp2_with fail
  refine HK.out.mono ?_
  rintro e w1 ⟨hout, F1⟩
  have HO := Lib.hid (And.intro hout F1)
  unfold gensReadOut at hout
  cases r with
  | error x =>
    obtain ⟨rfl, -⟩ := hout
    clear F1
    go_wp2_with fail
    exact bodyPost_ret (v := .tuple #[.slice none 0 0, .int .i64 x]) (by simp [results, Tryz.results23, go_sem]) rfl HO.out
  | ok lm =>
    obtain ⟨l, m⟩ := lm
    obtain ⟨a, cc, rfl, -⟩ := hout
    clear F1
    go_wp2_with fail
    exact bodyPost_ret (v := .tuple #[.slice a l.length cc, .int .i64 0]) (by simp [results, Tryz.results23, go_sem]) rfl HO.out
end Go.Proofs.YtacekpdjapgfcaaGreatDoor

namespace Go.Proofs.YtacekpdjapgfcaaGreatDoor
open Go Go.RowKit Go.Q
set_option linter.unusedSimpArgs false
theorem info46 : (Tryz.prog.info? 46).map (fun i => (i.zero, i.size, i.bytes)) = some (some (.agg #[.int .i64 0, .slice none 0 0, .slice none 0 0]), 3, 56) := by kernel_rfl
def rGensOut (K : Nat → Prop) (w' : World) (r : Except Int (List Gen)) (e : Ending) : Prop :=
  match r with
  | .error x => e = .returned (.tuple #[.slice none 0 0, .int .i64 x])
  | .ok gs => ∃ a c, e = .returned (.tuple #[.slice a gs.length c, .int .i64 0]) ∧ Kept (fun W => Gens W (.slice a gs.length c) gs) K w'
theorem genRead_nz {l : List UInt8} {x : Int} (h : genReadS l = .error x) : x ≠ 0 := by
  unfold genReadS at h
  split at h
  · rename_i e he
    simp only [Except.error.injEq] at h
    subst h
    exact readS_err he
  · split at h
    · simp only [Except.error.injEq] at h
      subst h
      decide
    split at h
    · simp only [Except.error.injEq] at h
      subst h
      decide
    split at h
    · split at h
      · rename_i e he
        simp only [Except.error.injEq] at h
        subst h
        exact nameParseNz he
      · cases h
    split at h
    · cases h
    · simp only [Except.error.injEq] at h
      subst h
      decide
set_option maxRecDepth 20000 in
set_option maxHeartbeats 4000000 in
theorem r15ReadAll_any (v : Value) (l : List UInt8) (p : Nat) (K : Nat → Prop) (w : World) (h : Kept (fun W => Bytes W v l) K w) (hK : ∀ k, K k → k < w.heap.size) (hp : p ≤ l.length) (hlm : l.length ≤ 10000000) :
    Calls Tryz.prog 22 #[v, .int .i64 p] w fun e w' => rGensOut K w' (genAllS (l.drop p)) e ∧ Fr (fun _ => False) w w' := by
  obtain ⟨av, cap, rfl, -⟩ := h.now.form
  have HH := Lib.hid h
  have HKK := Lib.hid hK
  clear h hK
  rcases Nat.lt_or_ge p l.length with hpl | hpl
  case inr =>
    have q1 : (l.length : Int) ≤ (p : Int) := by omega
    have HX := Lib.hid (show genAllS (l.drop p) = .error 6 by unfold genAllS; rw [if_pos (List.drop_eq_nil_of_le hpl)])
    go_enter Tryz.func22, Tryz.ntmps22
    go_wp2_with fail
    refine bodyPost_ret (v := .tuple #[.slice none 0 0, .int .i64 6]) (by simp [results, Tryz.results22, go_sem]) rfl ⟨?_, Fr.refl _⟩
    rw [HX.out]
    rfl
  have q1 : ¬ (l.length : Int) ≤ (p : Int) := by omega
  have HST := Lib.hid (show genAllS (l.drop p) = genSt [] (l.drop p) by unfold genAllS; rw [if_neg (fun e => by have := drop_nil e; omega)])
  go_enter Tryz.func22, Tryz.ntmps22
  go_wp2_with fail
  go_loopg [1, 6] (l.length - p) (fun gk ua u wr => ∃ (gs : List Gen) (q : Nat) (a : Option Addr) (cc : Nat), gk = l.length - q ∧ p ≤ q ∧ q ≤ l.length ∧ gs.length ≤ 10000 ∧ ua = .int .i64 q ∧ u = .slice a gs.length cc ∧ GRow 3 RGen K 46 wr w.heap.size (.slice a gs.length cc) gs ∧ Fr (fun _ => False) w wr ∧ genSt [] (l.drop p) = genSt gs (l.drop q))
  case atStart => exact ⟨[], p, none, 0, rfl, Nat.le_refl _, hp, by simp, rfl, rfl, GRow.nil _ _ _ _ _ _, Fr.refl _, rfl⟩
  case round =>
    obtain ⟨gs, q, a, cc, hgk, hpq, hq, hl, rfl, rfl, hrow, hF, hR⟩ := hrel
    have HG := Lib.hid hgk
    have HRW := Lib.hid hrow
    have HF := Lib.hid hF
    have HR := Lib.hid hR
    clear hgk hrow hF hR
    by_cases hql : q < l.length
    · have q2 : (q : Int) < (l.length : Int) := by omega
      have hne : l.drop q ≠ [] := fun e => by have := drop_nil e; omega
      have HNE := Lib.hid hne
      clear hne
      by_cases hfull : gs.length = 10000
      · have q3 : ((gs.length : Int) == 10000) = true := by rw [hfull]; rfl
        have q4 : (gs.length == 10000) = true := by rw [hfull]; rfl
        have HX := Lib.hid (HST.out.trans (HR.out.trans (manySt_full HNE.out hfull)))
        clear hfull
        go_wp2_with fail
        refine bodyPost_ret (v := .tuple #[.slice none 0 0, .int .i64 2]) (by simp [results, Tryz.results22, go_sem]) rfl ⟨?_, HF.out⟩
        rw [HX.out]
        rfl
      · have q3 : ((gs.length : Int) == 10000) = false := beq_eq_false_iff_ne.2 (by omega)
        have q4 : (gs.length == 10000) = false := beq_eq_false_iff_ne.2 hfull
        have hl2 : gs.length < 10000 := by omega
        have HFU := Lib.hid hfull
        have hsr := HF.out.size
        have HRD := Lib.hid (r15Read_any _ l q (fun k => K k ∨ (w.heap.size ≤ k ∧ k < wr.heap.size)) wr (HH.out.step HF.out (fun _ _ h => h.elim) (fun k hk => hk.elim .inl (fun h => .inr h.1))) (fun k hk => by rcases hk with hk | hk; have := HKK.out k hk; omega; exact hk.2) hq hlm)
        clear hfull
        go_wp2_with fail
        refine HRD.out.mono ?_
        rintro e w5 ⟨hout, F5⟩
        have HRW5 := Lib.hid (HRW.out.old F5)
        have HF5 := Lib.hid (HF.out.trans F5)
        have HK4 := Lib.hid (fun k hk => HRW.out.keep k hk)
        clear F5 HRD HRW HF
        unfold rGenOut at hout
        cases hr : genReadS (l.drop q) with
        | error x =>
          rw [hr] at hout
          subst hout
          have hx := genRead_nz hr
          have hx1 : (x == 0) = false := beq_eq_false_iff_ne.2 hx
          have hx2 : (x != 0) = true := by simpa using hx
          have HX := Lib.hid (HST.out.trans (HR.out.trans (manySt_err HNE.out HFU.out hr)))
          have HF6 := Lib.hid (HF5.out.alloc (.cells #[.int .i64 0, .slice none 0 0, .slice none 0 0] 46))
          clear hr hx
          go_wp2_with fail
          refine bodyPost_ret (v := .tuple #[.slice none 0 0, .int .i64 x]) (by simp [results, Tryz.results22, go_sem]) rfl ⟨?_, HF6.out⟩
          rw [HX.out]
          rfl
        | ok gm =>
          obtain ⟨g, m⟩ := gm
          rw [hr] at hout
          obtain ⟨ab, cb, an, cn, rfl, hk⟩ := hout
          obtain ⟨-, -, hgp, hle5⟩ := genRead_back _ _ _ hr
          rw [List.length_drop] at hle5
          have HRN := Lib.hid (HR.out.trans (manySt_ok genRead_pos HNE.out HFU.out hr))
          obtain ⟨y, hy⟩ : ∃ y, y = w5.heap.size := ⟨_, rfl⟩
          have F6 : Fr (fun _ => False) w5 (w5.alloc (.cells #[.int .i64 g.k, .slice ab g.b.length cb, .slice an g.n.length cn] 46)) := (Fr.refl w5).alloc _
          have BY := Blk.new w5 46 #[.int .i64 g.k, .slice ab g.b.length cb, .slice an g.n.length cn]
          rw [← hy] at BY
          have HF6 := Lib.hid (HF5.out.trans F6)
          have HRW6 := Lib.hid (HRW5.out.old F6)
          have HK6 := Lib.hid (hk.old F6)
          clear hr hk F6 HF5 HRW5
          go_upto_region 10 with fail
          rw [← hy]
          clear hy
          generalize (w5.alloc (.cells #[.int .i64 g.k, .slice ab g.b.length cb, .slice an g.n.length cn] 46)) = w6 at *
          have y0 := BY.cell 0
          have y1 := BY.cell 1
          have y2 := BY.cell 2
          simp only [List.getElem?_toArray, List.getElem?_cons_succ, List.getElem?_cons_zero] at y0 y1 y2
          obtain ⟨a7, c7, w7, hrun, hrow7, F7, -⟩ := HRW6.out.add (s := 52) Tryz.underlying52 info46 rfl (by decide) (by decide) HF6.out.size ((Fr.refl w6).alloc (.cells #[.int .i64 g.k, .slice ab g.b.length cb, .slice an g.n.length cn] 46)) w6.heap.size [.int .i64 g.k, .slice ab g.b.length cb, .slice an g.n.length cn] rfl (Blk.new w6 46 #[.int .i64 g.k, .slice ab g.b.length cb, .slice an g.n.length cn]) (by simp [Value.oneCell']) g ((HK6.out.weaken (fun k hk => by
            rcases hk with hk | hk
            · exact .inr (HK4.out k hk)
            · exact .inl hk)).imp (fun W h => ⟨_, _, rfl, h.1, h.2⟩)) (by omega)
          have HRUN := Lib.hid hrun
          have HRW7 := Lib.hid hrow7
          have HF7 := Lib.hid (HF6.out.trans' F7 (fun i hi e => absurd hi (by have := (HK4.out i e).1; omega)))
          clear hrun hrow7 F7 HF6 HK6 HRW6 BY
          go_wp2_with (at_builtin; refine wpList_append_run (by rfl) (.tmp 31) (.tmp 33) 52 (by rfl) _ w7 (by exact HRUN.out) ?_)
          go_roundg (l.length - (q + m))
          case measure => rw [HG.out]; omega
          case rel => exact ⟨gs ++ [g], q + m, a7, c7, rfl, by omega, by omega, by rw [List.length_append]; exact hl2, rfl, by rw [List.length_append]; rfl, by rw [List.length_append]; exact HRW7.out, HF7.out, by rw [HRN.out, List.drop_drop]; rfl⟩
    · obtain rfl : q = l.length := by omega
      have hr := HR.out
      rw [List.drop_length] at hr
      have HX := Lib.hid (HST.out.trans (hr.trans rfl))
      have HK4 := Lib.hid (HRW.out.kept (by decide) K (fun k hk => ⟨hk, HKK.out k hk⟩))
      clear hr
      go_wp2_with fail
      refine bodyPost_ret (v := .tuple #[.slice a gs.length cc, .int .i64 0]) (by simp [results, Tryz.results22, go_sem]) rfl ⟨?_, HF.out⟩
      rw [HX.out]
      exact ⟨a, cc, rfl, HK4.out⟩
def rListOut (K : Nat → Prop) (w' : World) (p : Nat) (r : Except Int (List Gen × Nat)) (e : Ending) : Prop :=
  match r with
  | .error x => e = .returned (.tuple #[.slice none 0 0, .int .i64 p, .int .i64 x])
  | .ok (gs, k) => ∃ a c, e = .returned (.tuple #[.slice a gs.length c, .int .i64 ((p + k : Nat) : Int), .int .i64 0]) ∧ Kept (fun W => Gens W (.slice a gs.length c) gs) K w'
theorem genAll_nz {l : List UInt8} {x : Int} (h : genAllS l = .error x) : x ≠ 0 := by
  have key : ∀ (f : Nat) (out : List Gen) (l : List UInt8), l.length ≤ f → genSt out l = .error x → x ≠ 0 := by
    intro f
    induction f with
    | zero =>
      intro out l hf h
      obtain rfl : l = [] := List.length_eq_zero_iff.1 (by omega)
      cases h
    | succ f ih =>
      intro out l hf h
      by_cases h0 : l = []
      · subst h0
        cases h
      by_cases hm : out.length = 10000
      · rw [genSt, manySt_full h0 hm] at h
        cases h
        decide
      cases hr : genReadS l with
      | error y =>
        rw [genSt, manySt_err h0 hm hr] at h
        cases h
        exact genRead_nz hr
      | ok gm =>
        obtain ⟨g, m⟩ := gm
        rw [genSt, manySt_ok genRead_pos h0 hm hr] at h
        have := genRead_pos _ _ _ hr
        have h1 : 0 < l.length := List.length_pos_iff.2 h0
        exact ih _ _ (by rw [List.length_drop]; omega) h
  unfold genAllS at h
  split at h
  · cases h
    decide
  · exact key _ _ _ (Nat.le_refl _) h
set_option maxRecDepth 20000 in
set_option maxHeartbeats 4000000 in
theorem r15ReadList_any (v : Value) (l : List UInt8) (p : Nat) (K : Nat → Prop) (w : World) (h : Kept (fun W => Bytes W v l) K w) (hK : ∀ k, K k → k < w.heap.size) (hp : p ≤ l.length) (hlm : l.length ≤ 10000000) :
    Calls Tryz.prog 24 #[v, .int .i64 p] w fun e w' => rListOut K w' p (genListS (l.drop p)) e ∧ Fr (fun _ => False) w w' := by
  obtain ⟨av, cap, rfl, -⟩ := h.now.form
  have HH := Lib.hid h
  have HKK := Lib.hid hK
  clear h hK
  go_enter Tryz.func24, Tryz.ntmps24
  go_wp2_with fail
  refine (r02Of_any 16 w).mono ?_
  rintro e w1 ⟨rfl, F1⟩
  have HF1 := Lib.hid F1
  have HO := Lib.hid (r02Open_any _ l p (tagOf 16) w1 ((HH.out.old F1).now) hp (by omega))
  clear F1
  rw [show tagV (tagOf 16) = .agg #[.int .i64 (tagOf 16).cls, .int .i64 (tagOf 16).num, .bool (tagOf 16).made] from rfl]
  go_wp2_with fail
  refine HO.out.mono ?_
  rintro e w2 ⟨hout, F2⟩
  have HF2 := Lib.hid (HF1.out.trans F2)
  clear F2 HO HF1
  cases ho : openS (tagOf 16) (l.drop p) with
  | error x =>
    have hx := openS_nz ho
    have hx1 : (x == 0) = false := beq_eq_false_iff_ne.2 hx
    have hx2 : (x != 0) = true := by simpa using hx
    rw [ho] at hout
    unfold rOpenOut at hout
    simp only at hout
    subst hout
    have HP := Lib.hid (listR_err ho)
    clear ho hx
    go_wp2_with fail
    refine bodyPost_ret (v := .tuple #[.slice none 0 0, .int .i64 p, .int .i64 x]) (by simp [results, Tryz.results24, go_sem]) rfl ⟨?_, HF2.out⟩
    rw [HP.out]
    rfl
  | ok yk =>
    obtain ⟨y, k⟩ := yk
    obtain ⟨-, -, hb3, hb4⟩ := open_back ho tag16
    rw [List.length_drop] at hb3
    have HOO := Lib.hid ho
    rw [ho] at hout
    unfold rOpenOut at hout
    simp only at hout
    obtain ⟨pk, hpk⟩ : ∃ pk, pk = p + k := ⟨_, rfl⟩
    rw [← hpk] at hout
    have HPK := Lib.hid hpk
    clear hpk
    obtain ⟨A, c, rfl, hby⟩ := hout
    have hs2 := HF2.out.size
    have HRA := Lib.hid (r15ReadAll_any _ y 0 K w2 ((HH.out.old HF2.out).imp hby) (fun k hk => by have := HKK.out k hk; omega) (Nat.zero_le _) (by omega))
    rw [List.drop_zero] at HRA
    clear ho hb3 hb4 hby
    go_wp2_with fail
    refine HRA.out.mono ?_
    rintro e w3 ⟨hout, F3⟩
    have HF3 := Lib.hid (HF2.out.trans F3)
    clear F3 HRA HF2
    unfold rGensOut at hout
    cases hr : genAllS y with
    | error x =>
      rw [hr] at hout
      subst hout
      have hx := genAll_nz hr
      have hx1 : (x == 0) = false := beq_eq_false_iff_ne.2 hx
      have hx2 : (x != 0) = true := by simpa using hx
      have HP := Lib.hid (listR_err2 HOO.out hr)
      clear hr hx
      go_wp2_with fail
      refine bodyPost_ret (v := .tuple #[.slice none 0 0, .int .i64 p, .int .i64 x]) (by simp [results, Tryz.results24, go_sem]) rfl ⟨?_, HF3.out⟩
      rw [HP.out]
      rfl
    | ok gs =>
      rw [hr] at hout
      obtain ⟨a, cc, rfl, hk⟩ := hout
      have HP := Lib.hid (listR_ok HOO.out hr)
      have HK := Lib.hid hk
      clear hr hk
      go_wp2_with fail
      refine bodyPost_ret (v := .tuple #[.slice a gs.length cc, .int .i64 (pk : Int), .int .i64 0]) (by simp [results, Tryz.results24, go_sem]) rfl ⟨?_, HF3.out⟩
      rw [HP.out]
      exact ⟨a, cc, by rw [HPK.out], HK.out⟩
end Go.Proofs.YtacekpdjapgfcaaGreatDoor

namespace Go.Q
open Go Go.RowKit
theorem bytes_keeps {wb w : World} {v : Value} {l : List UInt8} (h : Bytes wb v l) (F : Fr (fun k => wb.heap.size ≤ k) wb w) (K : Nat → Prop) (hK : ∀ k, K k → wb.heap.size ≤ k) : Kept (fun W => Bytes W v l) K w := fun W f =>
  h.fr (F.trans (f.mono (fun k _ hk => hK k hk))) (fun h0 k hk hs => by have := h.lt h0 k hk; omega)
end Go.Q
namespace Go.Proofs.YtacekpdjapgfcaaGreatDoor
open Go Go.RowKit Go.Q
set_option linter.unusedSimpArgs false
set_option maxRecDepth 20000 in
set_option maxHeartbeats 4000000 in
theorem lawToK_any (v : Value) (n : List (List Part)) (wb w : World) (h : NameAt wb v n) (Fb : Fr (fun _ => False) wb w) :
    Calls Tryz.prog 10 #[v] w fun e w' => (∃ a c, e = .returned (.slice a (cutName n).length c) ∧ FRow (fun k => wb.heap.size ≤ k ∧ k < w.heap.size) 90 w' w.heap.size (.slice a (cutName n).length c) (cutName n)) ∧ Fr (fun _ => False) w w' := by
  have H := Lib.hid h
  have HFB := Lib.hid Fb
  obtain ⟨a, cap, rfl, -⟩ := h
  have hcs : cutName n = (n.take 70).map cutStep := rfl
  have HCS := Lib.hid hcs
  clear hcs Fb
  go_enter Tryz.func10, Tryz.ntmps10
  go_wp2_with fail
  go_loopg [3, 4] n.length (fun g u i wr => ∃ (j : Nat) (au : Option Addr) (cu : Nat), g = n.length - j ∧ j ≤ n.length ∧ j ≤ 70 ∧ u = .slice au j cu ∧ i = .int .i64 j ∧ FRow (fun k => wb.heap.size ≤ k ∧ k < w.heap.size) 90 wr w.heap.size (.slice au j cu) ((n.take j).map cutStep) ∧ Fr (fun _ => False) w wr)
  case atStart => exact ⟨0, none, 0, rfl, Nat.zero_le _, by omega, rfl, rfl, FRow.nil _ _ _ _, Fr.refl _⟩
  case round =>
    obtain ⟨j, au, cu, hg, hj, hj70, rfl, rfl, hrow, F⟩ := hrel
    have HG := Lib.hid hg
    have HRW := Lib.hid hrow
    have HF := Lib.hid F
    have hml : ((n.take j).map cutStep).length = j := by rw [List.length_map, List.length_take]; omega
    have HML := Lib.hid hml
    clear hg hrow hml
    by_cases hjl : j < n.length
    · have q1 : (j : Int) < (n.length : Int) := by omega
      by_cases h70 : j < 70
      · have q2 : (j : Int) < 70 := by omega
        obtain ⟨a0, cap0, he, _, _, hx⟩ := H.out
        simp only [Value.slice.injEq, true_and] at he
        obtain ⟨rfl, rfl⟩ := he
        obtain ⟨b, off, rfl, hy⟩ := hx (by omega)
        obtain ⟨r, hr⟩ : ∃ r, n[j]? = some r := ⟨_, List.getElem?_eq_getElem hjl⟩
        obtain ⟨x, e0, hA⟩ := hy j r hr
        have e1 := (HFB.out.trans F).cell e0 (fun h => h)
        have HS := Lib.hid (lawStep_any x r wb wr hA (HFB.out.trans F))
        have HMT := Lib.hid (map_take_succ cutStep hr)
        have r1 : (0 : Int) ≤ (j : Int) := by omega
        clear hx hy hr e0 hA
        obtain ⟨wo, hwo⟩ : ∃ wo : World, wo = wr := ⟨_, rfl⟩
        obtain rfl := hwo
        go_wp2_with fail
        refine HS.out.mono ?_
        rintro e w2 ⟨⟨a2, c2, rfl, hrow2⟩, F2⟩
        have hkp := HRW.out.keep
        have hk2 : Kept (fun W => Attrs W (.slice a2 (cutStep r).length c2) (cutStep r)) (fun k => (Value.slice au j cu).ownBlock = some k ∨ (wb.heap.size ≤ k ∧ k < w.heap.size)) w2 := hrow2.kept ((HFB.out.trans HF.out).trans F2) _ (fun k e => by
          have g1 := HFB.out.size
          have g2 := HF.out.size
          rcases e with e | e
          · have := hkp k e
            omega
          · omega)
        obtain ⟨a7, c7, w7, hrun, hrow7, F7⟩ := FRow.add Tryz.underlying25 info90 (HRW.out.old F2) (HF.out.trans F2).size ((Fr.refl w2).alloc (.cells #[.slice a2 (cutStep r).length c2] 90)) w2.heap.size _ (cutStep r) (Blk.new w2 90 #[.slice a2 (cutStep r).length c2]) rfl hk2 (by rw [HML.out]; omega)
        have HG7 := Lib.hid ((HF.out.trans F2).trans' F7 (fun i hi e => absurd hi (by have := (hkp i e).1; omega)))
        rw [HML.out] at hrun hrow7
        have HRUN := Lib.hid hrun
        have HROW7 := Lib.hid hrow7
        clear hrun hrow7 F7 hk2 hkp hrow2 F2 e1 HS
        go_wp2_with (at_builtin; refine wpList_append_run (by rfl) (.tmp 15) (.tmp 21) 25 (by rfl) _ w7 (by exact HRUN.out) ?_)
        go_roundg (n.length - (j + 1))
        case measure => rw [HG.out]; omega
        case rel => exact ⟨j + 1, a7, c7, rfl, by omega, by omega, rfl, by go_num, by rw [HMT.out]; exact HROW7.out, HG7.out⟩
      · obtain rfl : j = 70 := by omega
        have q2 : ¬ ((70 : Nat) : Int) < 70 := by omega
        have hres : (n.take 70).map cutStep = cutName n := HCS.out.symm
        have hrow := HRW.out
        rw [hres] at hrow
        have hlen : 70 = (cutName n).length := by rw [← hres, HML.out]
        have HL := Lib.hid hlen
        have HROW := Lib.hid hrow
        clear hres hrow hlen
        go_wp2_with fail
        go_ret
        exact ⟨⟨au, cu, by rw [← HL.out]; rfl, by rw [← HL.out]; exact HROW.out⟩, F⟩
    · obtain rfl : j = n.length := by omega
      have hres : (n.take n.length).map cutStep = cutName n := by rw [HCS.out, List.take_of_length_le hj70, List.take_length]
      have hrow := HRW.out
      rw [hres] at hrow
      have hlen : n.length = (cutName n).length := by rw [← hres, HML.out]
      have HL := Lib.hid hlen
      have HROW := Lib.hid hrow
      clear hres hrow hlen
      go_wp2_with fail
      go_ret
      exact ⟨⟨au, cu, by rw [← HL.out]; rfl, by rw [← HL.out]; exact HROW.out⟩, F⟩
set_option maxRecDepth 20000 in
set_option maxHeartbeats 2000000 in
theorem lawGOf_any (u : Value) (g : Gen) (wb w : World) (h : GenAt wb u g) (Fb : Fr (fun _ => False) wb w) (hn : g.n.length ≤ 1000000) (hr : ∀ r ∈ g.n, r.length ≤ 1000000) :
    Calls Tryz.prog 27 #[u] w fun e w' => (∃ ab cb an cn, e = .returned (.agg #[.int .i64 g.k, .slice ab g.b.length cb, .slice an g.n.length cn]) ∧ Kept (fun W => Bytes W (.slice ab g.b.length cb) g.b ∧ NameAt W (.slice an g.n.length cn) g.n) (fun k => wb.heap.size ≤ k ∧ k < w.heap.size) w') ∧ Fr (fun _ => False) w w' := by
  obtain ⟨ab, cb, an, cn, rfl, hb, hnm⟩ := h.form
  obtain ⟨z, hz⟩ : ∃ z, z = w.heap.size := ⟨_, rfl⟩
  have HZ := Lib.hid hz
  have F0 : Fr (fun _ => False) w ((w.alloc (.cells #[.int .i64 g.k, .slice ab g.b.length cb, .slice an g.n.length cn] 42)).alloc (.cells #[.int .i64 0, .slice none 0 0, .slice none 0 0] 46)) := ((Fr.refl w).alloc _).alloc _
  have B := (Blk.new w 42 #[.int .i64 g.k, .slice ab g.b.length cb, .slice an g.n.length cn]).alloc (.cells #[.int .i64 0, .slice none 0 0, .slice none 0 0] 46)
  have D := Blk.new (w.alloc (.cells #[.int .i64 g.k, .slice ab g.b.length cb, .slice an g.n.length cn] 42)) 46 #[.int .i64 0, .slice none 0 0, .slice none 0 0]
  rw [World.size_alloc, ← hz] at D
  rw [← hz] at B
  have HF0 := Lib.hid F0
  have hs0 : w.heap.size + 2 = ((w.alloc (.cells #[.int .i64 g.k, .slice ab g.b.length cb, .slice an g.n.length cn] 42)).alloc (.cells #[.int .i64 0, .slice none 0 0, .slice none 0 0] 46)).heap.size := by rw [World.size_alloc, World.size_alloc]
  have HFB := Lib.hid Fb
  have HBB := Lib.hid hb
  have HO := Lib.hid (fun W (F : Fr (fun _ => False) wb W) => lawOfK_any _ g.n wb W hnm F hn hr)
  clear h hz F0 Fb hb hnm hn hr
  go_enter Tryz.func27, Tryz.ntmps27
  go_upto_region 1 with fail
  rw [← HZ.out]
  have HS0 := Lib.hid hs0
  clear hs0
  generalize ((w.alloc (.cells #[.int .i64 g.k, .slice ab g.b.length cb, .slice an g.n.length cn] 42)).alloc (.cells #[.int .i64 0, .slice none 0 0, .slice none 0 0] 46)) = w0 at *
  replace B := B.drew
  replace D := D.drew
  have G : Fr (fun _ => False) w w0.drew := HF0.out.drew
  have HSD : w0.drew.heap.size = w0.heap.size := rfl
  have HSS := Lib.hid HSD
  clear HSD
  go_region_held3 (fun w' => ∀ j, w'.cell? ⟨z, j, none⟩ = (#[.int .i64 g.k, .slice ab g.b.length cb, .slice an g.n.length cn] : Array Value)[j]?) (first | exact B.cell | exact B5.cell) (first
    | (go_at_call 14; refine (HO.out _ (HFB.out.trans G)).mono ?_; rintro e w' ⟨⟨a9, c9, rfl, hq⟩, F⟩; replace B := B.fr F (fun h => h); replace D := D.fr F (fun h => h); have hkq := hq.kept (fun k => wb.heap.size ≤ k ∧ k < w0.heap.size) (fun k hk => by have h2 := HSS.out; omega); replace G := G.trans F; clear F hq; have d0 := D.cell 0; have d1 := D.cell 1; have d2 := D.cell 2; have f0 := D.frozen 0; have f1 := D.frozen 1; have f2 := D.frozen 2; have D5 := set3 D (.int .i64 g.k) (.slice ab g.b.length cb) (.slice a9 g.n.length c9); have B5 := B.fr D5.2 (by omega); simp only [List.getElem?_toArray, List.getElem?_cons_succ, List.getElem?_cons_zero] at d0 d1 d2))
  all_goals
    have n0 := D5.1.cell 0
    have n1 := D5.1.cell 1
    have n2 := D5.1.cell 2
    simp only [List.getElem?_toArray, List.getElem?_cons_succ, List.getElem?_cons_zero] at n0 n1 n2
    have hbk := bytes_keeps HBB.out ((HFB.out.trans G).mono (T := fun k => wb.heap.size ≤ k) (fun _ _ h => h.elim)) (fun k => wb.heap.size ≤ k ∧ k < w0.heap.size) (fun k hk => hk.1)
    have hsb := HFB.out.size
    have HK := Lib.hid ((Kept.both hbk hkq).step (K' := fun k => wb.heap.size ≤ k ∧ k < w.heap.size) D5.2 (fun k hk e => by have := HZ.out; have := HS0.out; omega) (fun k hk => by have := HS0.out; exact .inl (by omega)))
    have HF := Lib.hid (G.trans' D5.2 (fun i hi e => by have := HZ.out; omega))
    clear hbk hkq B D B5 D5 G
    go_wp2_with fail
    exact bodyPost_ret (v := .agg #[.int .i64 g.k, .slice ab g.b.length cb, .slice a9 g.n.length c9]) (by simp [results, Tryz.results27, go_sem, n0, n1, n2]) rfl ⟨⟨ab, cb, a9, c9, rfl, HK.out⟩, HF.out⟩
set_option maxRecDepth 20000 in
set_option maxHeartbeats 4000000 in
theorem lawAll_any (v : Value) (l : List Gen) (w : World) (h : Gens w v l) (hn : ∀ g ∈ l, g.n.length ≤ 1000000 ∧ ∀ r ∈ g.n, r.length ≤ 1000000) (hl : l.length ≤ 1000000) :
    Calls Tryz.prog 29 #[v] w fun e w' => (∃ a c, e = .returned (.slice a l.length c) ∧ Gens w' (.slice a l.length c) l) ∧ Fr (fun _ => False) w w' := by
  have H := Lib.hid h
  have HN := Lib.hid hn
  obtain ⟨a0, cap0, rfl, -⟩ := h
  clear hn
  go_enter Tryz.func29, Tryz.ntmps29
  go_wp2_with fail
  go_loopg [3, 4] l.length (fun g u i wr => ∃ (j : Nat) (a : Option Addr) (c : Nat) (gs : List Gen), g = l.length - j ∧ j ≤ l.length ∧ u = .slice a gs.length c ∧ i = .int .i64 j ∧ gs.length = j ∧ Hid (gs = l.take j) ∧ GRow 3 RGen (fun _ => False) 46 wr w.heap.size (.slice a gs.length c) gs ∧ Fr (fun _ => False) w wr)
  case atStart => exact ⟨0, none, 0, [], rfl, Nat.zero_le _, rfl, rfl, rfl, Lib.hid rfl, GRow.nil _ _ _ _ _ _, Fr.refl _⟩
  case round =>
    obtain ⟨j, a, c, gs, hg, hj, rfl, rfl, hgl, HGS, hrow, F⟩ := hrel
    have HG := Lib.hid hg
    have HRW := Lib.hid hrow
    have HF := Lib.hid F
    have HGL := Lib.hid hgl
    clear hg hrow
    by_cases hjl : j < l.length
    · obtain ⟨x, hx⟩ : ∃ x, l[j]? = some x := ⟨_, List.getElem?_eq_getElem hjl⟩
      obtain ⟨b, o, ab, cb, an, cn, rfl, -, hga, e0, e1, e2⟩ := H.out.get hx
      replace e0 := F.cell e0 (fun h => h)
      replace e1 := F.cell e1 (fun h => h)
      replace e2 := F.cell e2 (fun h => h)
      have r1 : (0 : Int) ≤ (j : Int) := by omega
      have r2 : (j : Int) < (l.length : Int) := by omega
      have hxn := HN.out x (List.mem_of_getElem? hx)
      have HO := Lib.hid (lawGOf_any _ x w wr hga F hxn.1 hxn.2)
      have HX := Lib.hid hx
      have hkp := HRW.out.keep
      clear hx hga F hxn hgl
      go_wp2_with fail
      refine HO.out.mono ?_
      rintro e w2 ⟨⟨ab2, cb2, an2, cn2, rfl, hk⟩, F2⟩
      obtain ⟨a7, c7, w7, hrun, hrow7, F7, -⟩ := (HRW.out.old F2).add (s := 52) Tryz.underlying52 info46 rfl (by decide) (by decide) (HF.out.trans F2).size ((Fr.refl w2).alloc (.cells #[.int .i64 x.k, .slice ab2 x.b.length cb2, .slice an2 x.n.length cn2] 46)) w2.heap.size [.int .i64 x.k, .slice ab2 x.b.length cb2, .slice an2 x.n.length cn2] rfl (Blk.new w2 46 #[.int .i64 x.k, .slice ab2 x.b.length cb2, .slice an2 x.n.length cn2]) (by simp [Value.oneCell']) x ((hk.weaken (fun k hk => by
        rcases hk with hk | hk
        · exact hkp k hk
        · exact hk.elim)).imp (fun W h => ⟨_, _, rfl, h.1, h.2⟩)) (by have := HGL.out; omega)
      have HRUN := Lib.hid hrun
      have HRW7 := Lib.hid hrow7
      have HF7 := Lib.hid ((HF.out.trans F2).trans' F7 (fun i hi e => absurd hi (by have := (hkp i e).1; omega)))
      have HGS7 := Lib.hid (show gs ++ [x] = l.take (j + 1) by rw [List.take_add_one, HX.out, HGS.out]; rfl)
      clear F2 hk hrun hrow7 F7 HO HRW hkp e0 e1 e2
      go_wp2_with (at_builtin; refine wpList_append_run (by rfl) (.tmp 11) (.tmp 17) 52 (by rfl) _ w7 (by exact HRUN.out) ?_)
      go_roundg (l.length - (j + 1))
      case measure => rw [HG.out]; omega
      case rel => exact ⟨j + 1, a7, c7, gs ++ [x], rfl, by omega, by rw [List.length_append]; rfl, by go_num, by rw [List.length_append, HGL.out]; rfl, HGS7, by rw [List.length_append]; exact HRW7.out, HF7.out⟩
    · have hgs := HGS.out
      rw [List.take_of_length_le (by omega)] at hgs
      have HE := Lib.hid hgs
      clear hgs hgl
      go_wp2_with fail
      go_ret
      rw [← HE.out]
      exact ⟨⟨a, c, rfl, HRW.out.at (by decide)⟩, F⟩
end Go.Proofs.YtacekpdjapgfcaaGreatDoor

namespace Go.Q
open Go Go.RowKit
theorem lowB_toNat (c : UInt8) : (lowB c).toNat = if 65 ≤ c.toNat ∧ c.toNat ≤ 90 then c.toNat + 32 else c.toNat := by
  unfold lowB
  split
  · rw [UInt8.toNat_add]
    have : (32 : UInt8).toNat = 32 := rfl
    omega
  · rfl
theorem lower_len (l : List UInt8) : (lowerS l).length = l.length := by simp [lowerS]
theorem dot_len (l : List UInt8) : (dotS l).length ≤ l.length := by
  unfold dotS
  split
  · rw [List.length_dropLast]; omega
  · omega
def labGo (done : List (List UInt8)) (one : List UInt8) : List UInt8 → Option (List (List UInt8))
  | [] => if 1 ≤ one.length ∧ one.length ≤ 63 then some (done ++ [one]) else none
  | c :: t => if c = 46 then (if 1 ≤ one.length ∧ one.length ≤ 63 then labGo (done ++ [one]) [] t else none) else if labelC c then labGo done (one ++ [c]) t else none
def labL (l : List UInt8) : Bool := decide (1 ≤ l.length ∧ l.length ≤ 63) && l.all labelC
def labelsS (l : List UInt8) : Option (List (List UInt8)) := if 253 < (dotS (lowerS l)).length then none else labGo [] [] (dotS (lowerS l))
end Go.Q

namespace Go.Proofs.YtacekpdjapgfcaaGreatDoor
open Go Go.RowKit Go.Q
theorem str_size (l : List UInt8) : (ByteArray.mk l.toArray).size = l.length := by simp [ByteArray.size]
theorem str_to (l : List UInt8) (c : Nat) (hc : c ≤ l.length) (w : World) : (Instr.slice 9 (str l) none (some (.int .i64 (c : Int))) none).run Tryz.prog w = .ok (str (l.take c)) w := by
  rw [run_slice_string_to_if w 9 _ .i64 _ Tryz.underlying9, if_pos ⟨by omega, by rw [str_size]; omega⟩, ByteArray.extract_mk]
  simp
theorem str_from (l : List UInt8) (c : Nat) (hc : c ≤ l.length) (w : World) : (Instr.slice 9 (str l) (some (.int .i64 (c : Int))) none none).run Tryz.prog w = .ok (str (l.drop c)) w := by
  rw [run_slice_string_from_if w 9 _ .i64 _ Tryz.underlying9, if_pos ⟨by omega, by rw [str_size]; omega⟩, ByteArray.extract_mk, str_size, Int.toNat_natCast, List.take_of_length_le (by rw [List.length_drop]; omega)]
end Go.Proofs.YtacekpdjapgfcaaGreatDoor
