/-
  Merged by program: XGenRl XRSlice XR02O XR04P XR15 XR14R XR14P XR14N XR15R XR15L XGenTo XR15K XNOut XNSmall XGrOut XGenW XR15W XGenWa XHostS XNStrS XGenH XGenK XKyS XKyT XR13H XGenU XGbW.
-/
import Derived.Test.YthamenngccaijaaGreatDoorC0c
import Derived.Test.YthamenngccaijaaGreatDoorC0a
import Derived.Test.YthamenngccaijaaGreatDoorC0b
import Derived.Deep.CutBlock
import Derived.Deep.CutRange
import Derived.Deep.Cut
import Derived.Laws.Strings3
import Derived.Deep.Slices
import Derived.Sort.Walk0
import Derived.Lib.SlBytesConst
namespace Go.Proofs.YthamenngccaijaaGreatDoor
open Go Go.RowKit Go.Q
set_option linter.unusedSimpArgs false
def genReadOut (w w' : World) (c : Nat) (K : Nat → Prop) (bs : List UInt8) (p : Nat) (r : Except Int (Gen × Nat)) (e : Ending) : Prop :=
  match r with
  | .ok (g, m) => ∃ ab cb an cn, e = .returned (.tuple #[.agg #[.int .i64 g.k, .slice ab g.b.length cb, .slice an g.n.length cn], .int .i64 0]) ∧ Kept (fun W => Bytes W (.slice ab g.b.length cb) g.b ∧ NameAt W (.slice an g.n.length cn) g.n) (fun k => k < w.heap.size) w' ∧ CurAt w' c K bs (p + m)
  | .error x => e = .returned (.tuple #[.agg #[.int .i64 0, .slice none 0 0, .slice none 0 0], .int .i64 x]) ∧ x ≠ 0 ∧ CurAt w' c K bs p
set_option maxRecDepth 20000 in
set_option maxHeartbeats 4000000 in
theorem keptGen_any {w : World} {c : Nat} {K : Nat → Prop} {bs : List UInt8} {p : Nat} (h : CurAt w c K bs p) (hbs : bs.length ≤ 10000000) :
    Calls Tryz.prog 73 #[pt c, .func (.func 74) #[] #[]] w fun e w' => genReadOut w w' c K bs p (genReadS (bs.drop p)) e ∧ Fr (fun k => k = c) w w' := by
  have hcl := h.lt
  obtain ⟨z, hz⟩ : ∃ z, z = w.heap.size := ⟨_, rfl⟩
  have F0 : Fr (fun _ => False) w (w.alloc (.cells #[.int .i64 0, .slice none 0 0, .slice none 0 0] 43)) := (Fr.refl w).alloc _
  have B0 := Blk.new w 43 #[.int .i64 0, .slice none 0 0, .slice none 0 0]
  have H := Lib.hid (h.step (K' := fun k => K k ∨ w.heap.size ≤ k) F0 (fun _ _ h => h.elim) (fun _ h => h))
  rw [← hz] at B0
  have hzc : z ≠ c := by omega
  have HZ := Lib.hid hz
  clear h hz
  go_enter Tryz.func73, Tryz.ntmps73
  go_upto_region 1 with fail
  rw [← HZ.out]
  generalize (w.alloc (.cells #[.int .i64 0, .slice none 0 0, .slice none 0 0] 43)) = w0 at *
  have HB0 := Lib.hid B0
  have hz0 := B0.lt
  have HF0 := Lib.hid (F0.mono (T := fun k => k = c) (fun _ _ h => h.elim))
  have hs0 := F0.size
  have HA := Lib.hid (at_any H.out)
  have HRD := Lib.hid (genR_any H.out hbs)
  clear F0 B0 H
  go_wp2_with fail
  refine HA.out.mono ?_
  rintro e w0' ⟨rfl, rfl⟩
  go_wp2_with fail
  refine HRD.out.mono ?_
  rintro e w1 ⟨hout, F1⟩
  have HF1 := Lib.hid (HF0.out.trans F1)
  have HB1 := Lib.hid (HB0.out.fr F1 hzc)
  have hs1 := F1.size
  have hlt1 := HB1.out.lt
  have EK : ∀ (W : World) (q : Nat), CurAt W c (fun k => K k ∨ w.heap.size ≤ k) bs q → CurAt W c K bs q := fun W q C => C.step (K' := K) (Fr.refl W) (S := fun _ => False) (fun _ _ h => h.elim) (fun k hk => .inl (.inl hk))
  have HEK := Lib.hid EK
  clear F1 HRD HF0 HB0 EK HA
  unfold genOut at hout
  cases hr : genReadS (bs.drop p) with
  | error x =>
    rw [hr] at hout
    obtain ⟨rfl, hx, q, hq, C1⟩ := hout
    have hx1 : (x == 0) = false := beq_eq_false_iff_ne.2 hx
    have hx2 : (x != 0) = true := by simpa using hx
    have HR := Lib.hid hr
    have HX := Lib.hid hx
    have F2 : Fr (fun _ => False) w1 ((w1.alloc (.cells #[.int .i64 0, .slice none 0 0, .slice none 0 0] 43)).alloc (.cells #[.int .i64 0, .slice none 0 0, .slice none 0 0] 43)) := ((Fr.refl w1).alloc _).alloc _
    have HB2 := Lib.hid (HB1.out.fr F2 (fun h => h))
    have HC2 := Lib.hid (C1.old F2)
    have HF2 := Lib.hid (HF1.out.trans (F2.mono (T := fun k => k = c) (fun _ _ h => h.elim)))
    obtain ⟨y, hy⟩ : ∃ y, y = w1.heap.size + 1 := ⟨_, rfl⟩
    have BY := Blk.new (w1.alloc (.cells #[.int .i64 0, .slice none 0 0, .slice none 0 0] 43)) 43 #[.int .i64 0, .slice none 0 0, .slice none 0 0]
    rw [World.size_alloc, ← hy] at BY
    have HBY := Lib.hid BY
    have hyz : y ≠ z := by omega
    have hyc : y ≠ c := by have := C1.lt; omega
    clear hr hx C1 F2 BY HB1 HF1
    go_upto_region 5 with fail
    try rw [World.size_alloc]
    rw [← hy]
    clear hy
    generalize ((w1.alloc (.cells #[.int .i64 0, .slice none 0 0, .slice none 0 0] 43)).alloc (.cells #[.int .i64 0, .slice none 0 0, .slice none 0 0] 43)) = w2 at *
    have HBK := Lib.hid (back_any HC2.out p hq)
    go_wp2_with fail
    refine HBK.out.mono ?_
    rintro e w3 ⟨rfl, C3, F3⟩
    have BZ := HB2.out.fr F3 hzc
    have BY := HBY.out.fr F3 hyc
    have z0 := BZ.cell 0
    have z1 := BZ.cell 1
    have z2 := BZ.cell 2
    have f0 := BZ.frozen 0
    have f1 := BZ.frozen 1
    have f2 := BZ.frozen 2
    have y0 := BY.cell 0
    have y1 := BY.cell 1
    have y2 := BY.cell 2
    obtain ⟨B5, F5⟩ := set3 BZ (.int .i64 0) (.slice none 0 0) (.slice none 0 0)
    have n0 := B5.cell 0
    have n1 := B5.cell 1
    have n2 := B5.cell 2
    simp only [List.getElem?_toArray, List.getElem?_cons_succ, List.getElem?_cons_zero] at z0 z1 z2 y0 y1 y2 n0 n1 n2
    have HC5 := Lib.hid (HEK.out _ _ (C3.step (K' := fun k => K k ∨ w.heap.size ≤ k) F5 (fun k _ e => .inr (by have := HZ.out; omega)) (fun _ h => .inl h)))
    have HF5 := Lib.hid ((HF2.out.trans F3).trans' F5 (fun i hi e => by have := HZ.out; omega))
    clear C3 F3 BZ BY B5 F5 HBK HC2 HB2 HBY
    go_wp2_with fail
    refine bodyPost_ret (v := .tuple #[.agg #[.int .i64 0, .slice none 0 0, .slice none 0 0], .int .i64 x]) (by simp [results, Tryz.results73, go_sem, n0, n1, n2]) rfl ⟨?_, HF5.out⟩
    rw [HR.out]
    exact ⟨rfl, HX.out, HC5.out⟩
  | ok gm =>
    obtain ⟨g, m⟩ := gm
    rw [hr] at hout
    obtain ⟨ab, cb, an, cn, rfl, hk, C1⟩ := hout
    have HR := Lib.hid hr
    have F2 : Fr (fun _ => False) w1 (w1.alloc (.cells #[.int .i64 g.k, .slice ab g.b.length cb, .slice an g.n.length cn] 43)) := (Fr.refl w1).alloc _
    have HB2 := Lib.hid (HB1.out.fr F2 (fun h => h))
    have HC2 := Lib.hid (C1.old F2)
    have HF2 := Lib.hid (HF1.out.trans (F2.mono (T := fun k => k = c) (fun _ _ h => h.elim)))
    have HK2 := Lib.hid (hk.old F2)
    obtain ⟨y, hy⟩ : ∃ y, y = w1.heap.size := ⟨_, rfl⟩
    have BY := Blk.new w1 43 #[.int .i64 g.k, .slice ab g.b.length cb, .slice an g.n.length cn]
    rw [← hy] at BY
    have HBY := Lib.hid BY
    clear hr hk C1 F2 BY HB1 HF1
    go_upto_region 3 with fail
    rw [← hy]
    clear hy
    generalize (w1.alloc (.cells #[.int .i64 g.k, .slice ab g.b.length cb, .slice an g.n.length cn] 43)) = w2 at *
    have BZ := HB2.out
    have BY := HBY.out
    have z0 := BZ.cell 0
    have z1 := BZ.cell 1
    have z2 := BZ.cell 2
    have f0 := BZ.frozen 0
    have f1 := BZ.frozen 1
    have f2 := BZ.frozen 2
    have y0 := BY.cell 0
    have y1 := BY.cell 1
    have y2 := BY.cell 2
    obtain ⟨B5, F5⟩ := set3 BZ (.int .i64 g.k) (.slice ab g.b.length cb) (.slice an g.n.length cn)
    have n0 := B5.cell 0
    have n1 := B5.cell 1
    have n2 := B5.cell 2
    simp only [List.getElem?_toArray, List.getElem?_cons_succ, List.getElem?_cons_zero] at z0 z1 z2 y0 y1 y2 n0 n1 n2
    have HC5 := Lib.hid (HEK.out _ _ (HC2.out.step (K' := fun k => K k ∨ w.heap.size ≤ k) F5 (fun k _ e => .inr (by have := HZ.out; omega)) (fun _ h => .inl h)))
    have HF5 := Lib.hid (HF2.out.trans' F5 (fun i hi e => by have := HZ.out; omega))
    have HK5 := Lib.hid (HK2.out.step (K' := fun k => k < w.heap.size) F5 (fun k _ e => by omega) (fun k hk => .inl (by omega)))
    clear BZ BY B5 F5 HC2 HB2 HBY HK2
    go_wp2_with fail
    refine bodyPost_ret (v := .tuple #[.agg #[.int .i64 g.k, .slice ab g.b.length cb, .slice an g.n.length cn], .int .i64 0]) (by simp [results, Tryz.results73, go_sem, n0, n1, n2]) rfl ⟨?_, HF5.out⟩
    rw [HR.out]
    exact ⟨ab, cb, an, cn, rfl, HK5.out, HC5.out⟩
set_option maxRecDepth 20000 in
set_option maxHeartbeats 2000000 in
theorem genRead_any {w : World} {c : Nat} {K : Nat → Prop} {bs : List UInt8} {p : Nat} (h : CurAt w c K bs p) (hbs : bs.length ≤ 10000000) :
    Calls Tryz.prog 26 #[pt c] w fun e w' => genReadOut w w' c K bs p (genReadS (bs.drop p)) e ∧ Fr (fun k => k = c) w w' := by
  have hcl := h.lt
  obtain ⟨z, hz⟩ : ∃ z, z = w.heap.size := ⟨_, rfl⟩
  have F0 : Fr (fun _ => False) w (w.alloc (.cells #[.int .i64 0, .slice none 0 0, .slice none 0 0] 43)) := (Fr.refl w).alloc _
  have B0 := Blk.new w 43 #[.int .i64 0, .slice none 0 0, .slice none 0 0]
  have H := Lib.hid (h.step (K' := fun k => K k ∨ w.heap.size ≤ k) F0 (fun _ _ h => h.elim) (fun _ h => h))
  rw [← hz] at B0
  have hzc : z ≠ c := by omega
  have HZ := Lib.hid hz
  clear h hz
  go_enter Tryz.func26, Tryz.ntmps26
  go_upto_region 1 with fail
  rw [← HZ.out]
  generalize (w.alloc (.cells #[.int .i64 0, .slice none 0 0, .slice none 0 0] 43)) = w0 at *
  have HB0 := Lib.hid B0
  have hz0 := B0.lt
  have hs0 := F0.size
  have HF0 := Lib.hid (F0.mono (T := fun k => k = c) (fun _ _ h => h.elim))
  have HRD := Lib.hid (keptGen_any H.out hbs)
  clear F0 B0 H
  go_wp2_with fail
  refine HRD.out.mono ?_
  rintro e w1 ⟨hout, F1⟩
  have HF1 := Lib.hid (HF0.out.trans F1)
  have BZ := HB0.out.fr F1 hzc
  have EK : ∀ (W : World) (q : Nat), CurAt W c (fun k => K k ∨ w.heap.size ≤ k) bs q → CurAt W c K bs q := fun W q C => C.step (K' := K) (Fr.refl W) (S := fun _ => False) (fun _ _ h => h.elim) (fun k hk => .inl (.inl hk))
  have HEK := Lib.hid EK
  have z0 := BZ.cell 0
  have z1 := BZ.cell 1
  have z2 := BZ.cell 2
  have f0 := BZ.frozen 0
  have f1 := BZ.frozen 1
  have f2 := BZ.frozen 2
  clear F1 HRD HF0 HB0 EK
  unfold genReadOut at hout
  cases hr : genReadS (bs.drop p) with
  | error x =>
    rw [hr] at hout
    obtain ⟨rfl, hx, C1⟩ := hout
    have HR := Lib.hid hr
    have HX := Lib.hid hx
    obtain ⟨B5, F5⟩ := set3 BZ (.int .i64 0) (.slice none 0 0) (.slice none 0 0)
    have n0 := B5.cell 0
    have n1 := B5.cell 1
    have n2 := B5.cell 2
    simp only [List.getElem?_toArray, List.getElem?_cons_succ, List.getElem?_cons_zero] at z0 z1 z2 n0 n1 n2
    have HC5 := Lib.hid (HEK.out _ _ (C1.step (K' := fun k => K k ∨ w.heap.size ≤ k) F5 (fun k _ e => .inr (by have := HZ.out; omega)) (fun _ h => .inl h)))
    have HF5 := Lib.hid (HF1.out.trans' F5 (fun i hi e => by have := HZ.out; omega))
    clear hr hx C1 BZ B5 F5
    go_wp2_with fail
    refine bodyPost_ret (v := .tuple #[.agg #[.int .i64 0, .slice none 0 0, .slice none 0 0], .int .i64 x]) (by simp [results, Tryz.results26, go_sem, n0, n1, n2]) rfl ⟨?_, HF5.out⟩
    rw [HR.out]
    exact ⟨rfl, HX.out, HC5.out⟩
  | ok gm =>
    obtain ⟨g, m⟩ := gm
    rw [hr] at hout
    obtain ⟨ab, cb, an, cn, rfl, hk, C1⟩ := hout
    have HR := Lib.hid hr
    obtain ⟨B5, F5⟩ := set3 BZ (.int .i64 g.k) (.slice ab g.b.length cb) (.slice an g.n.length cn)
    have n0 := B5.cell 0
    have n1 := B5.cell 1
    have n2 := B5.cell 2
    simp only [List.getElem?_toArray, List.getElem?_cons_succ, List.getElem?_cons_zero] at z0 z1 z2 n0 n1 n2
    have HC5 := Lib.hid (HEK.out _ _ (C1.step (K' := fun k => K k ∨ w.heap.size ≤ k) F5 (fun k _ e => .inr (by have := HZ.out; omega)) (fun _ h => .inl h)))
    have HF5 := Lib.hid (HF1.out.trans' F5 (fun i hi e => by have := HZ.out; omega))
    have HK5 := Lib.hid (hk.step (K' := fun k => k < w.heap.size) F5 (fun k _ e => by omega) (fun k hk => .inl (by omega)))
    clear hr hk C1 BZ B5 F5
    go_wp2_with fail
    refine bodyPost_ret (v := .tuple #[.agg #[.int .i64 g.k, .slice ab g.b.length cb, .slice an g.n.length cn], .int .i64 0]) (by simp [results, Tryz.results26, go_sem, n0, n1, n2]) rfl ⟨?_, HF5.out⟩
    rw [HR.out]
    exact ⟨ab, cb, an, cn, rfl, HK5.out, HC5.out⟩
theorem info43 : (Tryz.prog.info? 43).map (fun i => (i.zero, i.size, i.bytes)) = some (some (.agg #[.int .i64 0, .slice none 0 0, .slice none 0 0]), 3, 56) := by kernel_rfl
def gensOut (w w' : World) (c : Nat) (K : Nat → Prop) (bs : List UInt8) (p : Nat) (r : Except Int (List Gen × Nat)) (e : Ending) : Prop :=
  match r with
  | .ok (l, m) => ∃ a cc, e = .returned (.tuple #[.slice a l.length cc, .int .i64 0]) ∧ Kept (fun W => Gens W (.slice a l.length cc) l) (fun k => k < w.heap.size) w' ∧ CurAt w' c K bs (p + m)
  | .error x => e = .returned (.tuple #[.slice none 0 0, .int .i64 x]) ∧ x ≠ 0 ∧ ∃ q, p ≤ q ∧ CurAt w' c K bs q
def gensReadOut (w w' : World) (c : Nat) (K : Nat → Prop) (bs : List UInt8) (p : Nat) (r : Except Int (List Gen × Nat)) (e : Ending) : Prop :=
  match r with
  | .ok (l, m) => ∃ a cc, e = .returned (.tuple #[.slice a l.length cc, .int .i64 0]) ∧ Kept (fun W => Gens W (.slice a l.length cc) l) (fun k => k < w.heap.size) w' ∧ CurAt w' c K bs (p + m)
  | .error x => e = .returned (.tuple #[.slice none 0 0, .int .i64 x]) ∧ x ≠ 0 ∧ CurAt w' c K bs p
def genAllR (l : List UInt8) : Except Int (List Gen × Nat) := match genAllS l with | .error e => .error e | .ok gs => .ok (gs, l.length)
set_option maxRecDepth 20000 in
set_option maxHeartbeats 4000000 in
theorem all_any {w : World} {c : Nat} {K : Nat → Prop} {bs : List UInt8} {p : Nat} (h : CurAt w c K bs p) (hbs : bs.length ≤ 10000000) :
    Calls Tryz.prog 79 #[pt c] w fun e w' => gensOut w w' c K bs p (genAllR (bs.drop p)) e ∧ Fr (fun k => k = c) w w' := by
  have H := Lib.hid (h.step (K' := fun k => K k ∨ w.heap.size ≤ k) (Fr.refl (S := fun _ => False) w) (fun _ _ h => h.elim) (fun _ h => h))
  have EK : ∀ (W : World) (q : Nat), CurAt W c (fun k => K k ∨ w.heap.size ≤ k) bs q → CurAt W c K bs q := fun W q C => C.step (K' := K) (Fr.refl W) (S := fun _ => False) (fun _ _ h => h.elim) (fun k hk => .inl (.inl hk))
  have HEK := Lib.hid EK
  have hle := h.le
  have hcl := h.lt
  have HL0 := Lib.hid (left_any H.out)
  have er : ∀ x, genAllS (bs.drop p) = .error x → genAllR (bs.drop p) = .error x := fun x h => by unfold genAllR; rw [h]
  have ok : ∀ gs, genAllS (bs.drop p) = .ok gs → genAllR (bs.drop p) = .ok (gs, bs.length - p) := fun gs h => by unfold genAllR; rw [h, List.length_drop]
  have HER := Lib.hid er
  have HOK := Lib.hid ok
  clear h EK er ok
  go_enter Tryz.func79, Tryz.ntmps79
  go_wp2_with fail
  refine HL0.out.mono ?_
  rintro e w1 ⟨rfl, F1⟩
  have HC1 := Lib.hid (H.out.old F1)
  have HF1 := Lib.hid (F1.mono (T := fun k => k = c) (fun _ _ h => h.elim))
  have hs1 := F1.size
  clear F1 HL0 H
  rcases Nat.lt_or_ge p bs.length with hpl | hpl
  case inr =>
    have hz : bs.length - p = 0 := by omega
    have hx : genAllS (bs.drop p) = .error 6 := by unfold genAllS; rw [if_pos (List.drop_eq_nil_of_le hpl)]
    have HX := Lib.hid (HER.out 6 hx)
    rw [hz]
    clear hx hz
    go_wp2_with fail
    refine bodyPost_ret (v := .tuple #[.slice none 0 0, .int .i64 6]) (by simp [results, Tryz.results79, go_sem]) rfl ⟨?_, HF1.out⟩
    rw [HX.out]
    exact ⟨rfl, by decide, p, Nat.le_refl _, HEK.out _ _ HC1.out⟩
  have hz : (((bs.length - p : Nat) : Int) == 0) = false := beq_eq_false_iff_ne.2 (by omega)
  have hz2 : (bs.length - p == 0) = false := beq_eq_false_iff_ne.2 (by omega)
  have hst : genAllS (bs.drop p) = genSt [] (bs.drop p) := by unfold genAllS; rw [if_neg (fun e => by have := drop_nil e; omega)]
  have HST := Lib.hid hst
  clear hst
  generalize hlq : bs.length - p = lq at *
  have HLQ := Lib.hid hlq
  clear hlq
  go_wp2_with fail
  go_loopg [4] (bs.length - p) (fun gk u wr => ∃ (l : List Gen) (q : Nat) (a : Option Addr) (cc : Nat), gk = bs.length - q ∧ p ≤ q ∧ q ≤ bs.length ∧ l.length ≤ 10000 ∧ u = .slice a l.length cc ∧ GRow 3 RGen (fun k => k < w.heap.size) 43 wr w.heap.size (.slice a l.length cc) l ∧ CurAt wr c (fun k => K k ∨ w.heap.size ≤ k) bs q ∧ Fr (fun k => k = c) w wr ∧ genSt [] (bs.drop p) = genSt l (bs.drop q))
  case atStart => exact ⟨[], p, none, 0, rfl, Nat.le_refl _, hle, by simp, rfl, GRow.nil _ _ _ _ _ _, HC1.out, HF1.out, rfl⟩
  case round =>
    obtain ⟨l, q, a, cc, hgk, hpq, hq, hl, rfl, hrow, hC, hF, hR⟩ := hrel
    have HG := Lib.hid hgk
    have HRW := Lib.hid hrow
    have HC := Lib.hid hC
    have HF := Lib.hid hF
    have HR := Lib.hid hR
    have HL := Lib.hid (left_any hC)
    clear hgk hrow hC hF hR HC1 HF1
    by_cases hql : q < bs.length
    · have q1 : (0 : Int) < ((bs.length - q : Nat) : Int) := by omega
      have hne : bs.drop q ≠ [] := fun e => by have := drop_nil e; omega
      have HNE := Lib.hid hne
      clear hne
      obtain ⟨lr, hlr⟩ : ∃ lr, lr = bs.length - q := ⟨_, rfl⟩
      rw [← hlr] at q1 HL HG
      have HLR := Lib.hid hlr
      clear hlr
      by_cases hfull : l.length = 10000
      · have q3 : ((l.length : Int) == 10000) = true := by rw [hfull]; rfl
        have q4 : (l.length == 10000) = true := by rw [hfull]; rfl
        have HX := Lib.hid (HER.out 2 (HST.out.trans (HR.out.trans (manySt_full HNE.out hfull))))
        clear hfull
        go_wp2_with fail
        refine HL.out.mono ?_
        rintro e w4 ⟨rfl, F4⟩
        have HF4 := Lib.hid (HF.out.trans (F4.mono (fun _ _ h => h.elim)))
        have HC4 := Lib.hid (HC.out.old F4)
        clear F4 HL
        go_wp2_with fail
        refine bodyPost_ret (v := .tuple #[.slice none 0 0, .int .i64 2]) (by simp [results, Tryz.results79, go_sem]) rfl ⟨?_, HF4.out⟩
        rw [HX.out]
        exact ⟨rfl, by decide, q, hpq, HEK.out _ _ HC4.out⟩
      · have q3 : ((l.length : Int) == 10000) = false := beq_eq_false_iff_ne.2 (by omega)
        have q4 : (l.length == 10000) = false := beq_eq_false_iff_ne.2 hfull
        have hl2 : l.length < 10000 := by omega
        have HFU := Lib.hid hfull
        clear hfull
        go_wp2_with fail
        refine HL.out.mono ?_
        rintro e w4 ⟨rfl, F4⟩
        have HF4 := Lib.hid (HF.out.trans (F4.mono (fun _ _ h => h.elim)))
        have HC4 := Lib.hid (HC.out.old F4)
        have HRW4 := Lib.hid (HRW.out.old F4)
        clear F4 HL HRW HF HC
        have HRD := Lib.hid (genR_any HC4.out hbs)
        go_wp2_with fail
        refine HRD.out.mono ?_
        rintro e w5 ⟨hout, F5⟩
        have hcw : ∀ k, k = c → k < w.heap.size := fun k e => by omega
        have HRW5 := Lib.hid (HRW4.out.fr F5 (fun k _ e => hcw k e) (fun k hk e => by have := (HRW4.out.keep k hk).1; omega))
        have hs4 := HF4.out.size
        have HF5 := Lib.hid (HF4.out.trans F5)
        have HK4 := Lib.hid (fun k hk => (HRW4.out.keep k hk).2)
        clear F5 HRD HRW4 HF4 HC4
        unfold genOut at hout
        cases hr : genReadS (bs.drop q) with
        | error x =>
          rw [hr] at hout
          obtain ⟨rfl, hx, q', hq', C5⟩ := hout
          have hx1 : (x == 0) = false := beq_eq_false_iff_ne.2 hx
          have hx2 : (x != 0) = true := by simpa using hx
          have HX := Lib.hid (HER.out x (HST.out.trans (HR.out.trans (manySt_err HNE.out HFU.out hr))))
          have HXX := Lib.hid hx
          have F6 : Fr (fun _ => False) w5 (w5.alloc (.cells #[.int .i64 0, .slice none 0 0, .slice none 0 0] 43)) := (Fr.refl w5).alloc _
          have HC6 := Lib.hid (C5.old F6)
          have HF6 := Lib.hid (HF5.out.trans (F6.mono (T := fun k => k = c) (fun _ _ h => h.elim)))
          clear hr hx C5 F6
          go_wp2_with fail
          refine bodyPost_ret (v := .tuple #[.slice none 0 0, .int .i64 x]) (by simp [results, Tryz.results79, go_sem]) rfl ⟨?_, HF6.out⟩
          rw [HX.out]
          exact ⟨rfl, HXX.out, q', by omega, HEK.out _ _ HC6.out⟩
        | ok gm =>
          obtain ⟨g, m⟩ := gm
          rw [hr] at hout
          obtain ⟨ab, cb, an, cn, rfl, hk, C5⟩ := hout
          have hgp := genRead_pos _ _ _ hr
          have hle5 := C5.le
          have HRN := Lib.hid (HR.out.trans (manySt_ok genRead_pos HNE.out HFU.out hr))
          obtain ⟨y, hy⟩ : ∃ y, y = w5.heap.size := ⟨_, rfl⟩
          have F6 : Fr (fun _ => False) w5 (w5.alloc (.cells #[.int .i64 g.k, .slice ab g.b.length cb, .slice an g.n.length cn] 43)) := (Fr.refl w5).alloc _
          have BY := Blk.new w5 43 #[.int .i64 g.k, .slice ab g.b.length cb, .slice an g.n.length cn]
          rw [← hy] at BY
          have HC6 := Lib.hid (C5.old F6)
          have HF6 := Lib.hid (HF5.out.trans (F6.mono (T := fun k => k = c) (fun _ _ h => h.elim)))
          have HRW6 := Lib.hid (HRW5.out.old F6)
          have HK6 := Lib.hid (hk.old F6)
          have hkl := HRW5.out.keep
          have HKL := Lib.hid (fun k hk => hkl k hk)
          clear hr hk C5 F6 HF5 HRW5 hkl
          go_upto_region 10 with fail
          rw [← hy]
          clear hy
          generalize (w5.alloc (.cells #[.int .i64 g.k, .slice ab g.b.length cb, .slice an g.n.length cn] 43)) = w6 at *
          have y0 := BY.cell 0
          have y1 := BY.cell 1
          have y2 := BY.cell 2
          simp only [List.getElem?_toArray, List.getElem?_cons_succ, List.getElem?_cons_zero] at y0 y1 y2
          obtain ⟨a7, c7, w7, hrun, hrow7, F7, -⟩ := HRW6.out.add (s := 38) Tryz.underlying38 info43 rfl (by decide) (by decide) HF6.out.size ((Fr.refl w6).alloc (.cells #[.int .i64 g.k, .slice ab g.b.length cb, .slice an g.n.length cn] 43)) w6.heap.size [.int .i64 g.k, .slice ab g.b.length cb, .slice an g.n.length cn] rfl (Blk.new w6 43 #[.int .i64 g.k, .slice ab g.b.length cb, .slice an g.n.length cn]) (by simp [Value.oneCell']) g ((HK6.out.weaken (fun k hk => by
            rcases hk with hk | hk
            · exact HK4.out k hk
            · omega)).imp (fun W h => ⟨_, _, rfl, h.1, h.2⟩)) (by omega)
          have HRUN := Lib.hid hrun
          have HRW7 := Lib.hid hrow7
          have HC7 := Lib.hid (HC6.out.step (K' := fun k => K k ∨ w.heap.size ≤ k) F7 (fun k _ e => .inr (HKL.out k e).1) (fun _ h => .inl h))
          have HF7 := Lib.hid (HF6.out.trans' F7 (fun i hi e => absurd hi (by have := (HKL.out i e).1; omega)))
          clear hrun hrow7 F7 HC6 HF6 HK6 HRW6 BY
          go_wp2_with (at_builtin; refine wpList_append_run (by rfl) (.tmp 26) (.tmp 28) 38 (by rfl) _ w7 (by exact HRUN.out) ?_)
          go_roundg (bs.length - (q + m))
          case measure => rw [HG.out, HLR.out]; omega
          case rel => exact ⟨l ++ [g], q + m, a7, c7, rfl, by omega, hle5, by rw [List.length_append]; exact hl2, by rw [List.length_append]; rfl, by rw [List.length_append]; exact HRW7.out, HC7.out, HF7.out, by rw [HRN.out, List.drop_drop]; rfl⟩
    · obtain rfl : q = bs.length := by omega
      have hr := HR.out
      rw [List.drop_length] at hr
      have HX := Lib.hid (HOK.out l (HST.out.trans (hr.trans rfl)))
      rw [Nat.sub_self] at HL
      clear hr
      go_wp2_with fail
      refine HL.out.mono ?_
      rintro e w4 ⟨rfl, F4⟩
      have HF4 := Lib.hid (HF.out.trans (F4.mono (fun _ _ h => h.elim)))
      have HC4 := Lib.hid (HEK.out _ _ (HC.out.old F4))
      have HK4 := Lib.hid ((HRW.out.old F4).kept (by decide) (fun k => k < w.heap.size) (fun k hk => ⟨hk, hk⟩))
      clear F4 HL
      go_wp2_with fail
      refine bodyPost_ret (v := .tuple #[.slice a l.length cc, .int .i64 0]) (by simp [results, Tryz.results79, go_sem]) rfl ⟨?_, HF4.out⟩
      rw [HX.out, HLQ.out.symm]
      exact ⟨a, cc, rfl, HK4.out, by rw [show p + (bs.length - p) = bs.length by omega]; exact HC4.out⟩
theorem listR_err {l : List UInt8} {x : Int} (h : openS (tagOf 16) l = .error x) : genListS l = .error x := by unfold genListS; rw [h]
theorem listR_err2 {l y : List UInt8} {k : Nat} {x : Int} (h : openS (tagOf 16) l = .ok (y, k)) (h2 : genAllS y = .error x) : genListS l = .error x := by unfold genListS; rw [h]; simp only [h2]
theorem listR_ok {l y : List UInt8} {k : Nat} {gs : List Gen} (h : openS (tagOf 16) l = .ok (y, k)) (h2 : genAllS y = .ok gs) : genListS l = .ok (gs, k) := by unfold genListS; rw [h]; simp only [h2]
set_option maxRecDepth 20000 in
set_option maxHeartbeats 2000000 in
theorem list1_any {w : World} {c : Nat} {K : Nat → Prop} {bs : List UInt8} {p : Nat} (h : CurAt w c K bs p) (hbs : bs.length ≤ 10000000) :
    Calls Tryz.prog 80 #[pt c] w fun e w' => gensOut w w' c K bs p (genListS (bs.drop p)) e ∧ Fr (fun k => k = c) w w' := by
  have H := Lib.hid (h.step (K' := fun k => K k ∨ w.heap.size ≤ k) (Fr.refl (S := fun _ => False) w) (fun _ _ h => h.elim) (fun _ h => h))
  have EK : ∀ (W : World) (q : Nat), CurAt W c (fun k => K k ∨ w.heap.size ≤ k) bs q → CurAt W c K bs q := fun W q C => C.step (K' := K) (Fr.refl W) (S := fun _ => False) (fun _ _ h => h.elim) (fun k hk => .inl (.inl hk))
  have HEK := Lib.hid EK
  have hcl := h.lt
  clear h EK
  go_enter Tryz.func80, Tryz.ntmps80
  go_wp2_with fail
  refine (headOf_any 16 w).mono ?_
  rintro e w1 ⟨rfl, F1⟩
  have HC1 := Lib.hid (H.out.old F1)
  have HF1 := Lib.hid (F1.mono (T := fun k => k = c) (fun _ _ h => h.elim))
  have hs1 := F1.size
  clear F1 H
  cases ho : openS (tagOf 16) (bs.drop p) with
  | error x =>
    have hx := openS_nz ho
    have hx1 : (x == 0) = false := beq_eq_false_iff_ne.2 hx
    have hx2 : (x != 0) = true := by simpa using hx
    have HP := Lib.hid (listR_err ho)
    have HX := Lib.hid hx
    have HE := Lib.hid (open_err HC1.out (tagOf 16) ho)
    clear ho hx
    go_wp2_with fail
    refine HE.out.mono ?_
    rintro e w2 ⟨rfl, C2, F2⟩
    have HC2 := Lib.hid (HEK.out _ _ C2)
    have HF2 := Lib.hid (HF1.out.trans F2)
    clear C2 F2 HE
    go_wp2_with fail
    refine bodyPost_ret (v := .tuple #[.slice none 0 0, .int .i64 x]) (by simp [results, Tryz.results80, go_sem]) rfl ⟨?_, HF2.out⟩
    rw [HP.out]
    exact ⟨rfl, HX.out, p, Nat.le_refl _, HC2.out⟩
  | ok yk =>
    obtain ⟨y, k⟩ := yk
    obtain ⟨-, -, hb3, hb4⟩ := open_back ho tag16
    rw [List.length_drop] at hb3
    have HO := Lib.hid ho
    have HE := Lib.hid (open_on HC1.out (tagOf 16) ho)
    have hyl : y.length ≤ 10000000 := by omega
    clear ho hb3 hb4
    go_wp2_with fail
    refine HE.out.mono ?_
    rintro e w2 ⟨⟨g, rfl, ⟨hg, hN⟩, C2⟩, F2⟩
    have HA := Lib.hid (all_any hN hyl)
    rw [List.drop_zero] at HA
    have HC2 := Lib.hid C2
    have HF2 := Lib.hid (HF1.out.trans F2)
    have hs2 := F2.size
    have hgw : w.heap.size ≤ g := by omega
    clear C2 F2 HE hN
    go_wp2_with fail
    refine HA.out.mono ?_
    rintro e w3 ⟨hout, F3⟩
    have HC3 := Lib.hid (HEK.out _ _ (HC2.out.step (K' := fun k => K k ∨ w.heap.size ≤ k) F3 (fun k _ e => .inr (by omega)) (fun _ h => .inl h)))
    have HF3 := Lib.hid (HF2.out.trans' F3 (fun i hi e => absurd hi (by omega)))
    clear F3 HA
    unfold gensOut genAllR at hout
    cases hr : genAllS y with
    | error x =>
      rw [hr] at hout
      obtain ⟨rfl, hx, -⟩ := hout
      have HP := Lib.hid (listR_err2 HO.out hr)
      have HX := Lib.hid hx
      clear hr hx
      go_wp2_with fail
      refine bodyPost_ret (v := .tuple #[.slice none 0 0, .int .i64 x]) (by simp [results, Tryz.results80, go_sem]) rfl ⟨?_, HF3.out⟩
      rw [HP.out]
      exact ⟨rfl, HX.out, p + k, by omega, HC3.out⟩
    | ok gs =>
      rw [hr] at hout
      obtain ⟨a, cc, rfl, hk, -⟩ := hout
      have HP := Lib.hid (listR_ok HO.out hr)
      have HK := Lib.hid (hk.weaken (K' := fun k => k < w.heap.size) (fun k hk => by omega))
      clear hr hk
      go_wp2_with fail
      refine bodyPost_ret (v := .tuple #[.slice a gs.length cc, .int .i64 0]) (by simp [results, Tryz.results80, go_sem]) rfl ⟨?_, HF3.out⟩
      rw [HP.out]
      exact ⟨a, cc, rfl, HK.out, HC3.out⟩
set_option maxRecDepth 20000 in
set_option maxHeartbeats 4000000 in
theorem keptGens_any {w : World} {c : Nat} {K : Nat → Prop} {bs : List UInt8} {p : Nat} (h : CurAt w c K bs p) (hbs : bs.length ≤ 10000000) (F : Nat) (r : Except Int (List Gen × Nat)) (hF : (F = 79 ∧ r = genAllR (bs.drop p)) ∨ (F = 80 ∧ r = genListS (bs.drop p))) :
    Calls Tryz.prog 78 #[pt c, .func (.func F) #[] #[]] w fun e w' => gensReadOut w w' c K bs p r e ∧ Fr (fun k => k = c) w w' := by
  have HA := Lib.hid (at_any h)
  rcases hF with ⟨rfl, rfl⟩ | ⟨rfl, rfl⟩
  case' inl =>
    have HRD := Lib.hid (all_any h hbs)
    generalize genAllR (bs.drop p) = r at *
  case' inr =>
    have HRD := Lib.hid (list1_any h hbs)
    generalize genListS (bs.drop p) = r at *
  all_goals
    clear h
    go_enter Tryz.func78, Tryz.ntmps78
    go_wp2_with fail
    refine HA.out.mono ?_
    rintro e w0' ⟨rfl, rfl⟩
    go_wp2_with fail
    refine HRD.out.mono ?_
    rintro e w1 ⟨hout, F1⟩
    have HF1 := Lib.hid F1
    clear F1 HRD HA
    unfold gensOut at hout
    cases r with
    | error x =>
      obtain ⟨rfl, hx, q, hq, C1⟩ := hout
      have hx1 : (x == 0) = false := beq_eq_false_iff_ne.2 hx
      have hx2 : (x != 0) = true := by simpa using hx
      have HX := Lib.hid hx
      have HBK := Lib.hid (back_any C1 p hq)
      clear hx C1
      go_wp2_with fail
      refine HBK.out.mono ?_
      rintro e w3 ⟨rfl, C3, F3⟩
      have HC3 := Lib.hid C3
      have HF3 := Lib.hid (HF1.out.trans F3)
      clear C3 F3 HBK
      go_wp2_with fail
      refine bodyPost_ret (v := .tuple #[.slice none 0 0, .int .i64 x]) (by simp [results, Tryz.results78, go_sem]) rfl ⟨?_, HF3.out⟩
      exact ⟨rfl, HX.out, HC3.out⟩
    | ok lm =>
      obtain ⟨l, m⟩ := lm
      obtain ⟨a, cc, rfl, hk, C1⟩ := hout
      have HK := Lib.hid hk
      have HC := Lib.hid C1
      clear hk C1
      go_wp2_with fail
      refine bodyPost_ret (v := .tuple #[.slice a l.length cc, .int .i64 0]) (by simp [results, Tryz.results78, go_sem]) rfl ⟨?_, HF1.out⟩
      exact ⟨a, cc, rfl, HK.out, HC.out⟩
set_option maxRecDepth 20000 in
set_option maxHeartbeats 1000000 in
theorem readAll_any {w : World} {c : Nat} {K : Nat → Prop} {bs : List UInt8} {p : Nat} (h : CurAt w c K bs p) (hbs : bs.length ≤ 10000000) :
    Calls Tryz.prog 28 #[pt c] w fun e w' => gensReadOut w w' c K bs p (genAllR (bs.drop p)) e ∧ Fr (fun k => k = c) w w' := by
  have HK := Lib.hid (keptGens_any h hbs 79 _ (.inl ⟨rfl, rfl⟩))
  clear h
  generalize genAllR (bs.drop p) = r at *
  go_enter Tryz.func28, Tryz.ntmps28
  go_wp2_with fail
  refine HK.out.mono ?_
  rintro e w1 ⟨hout, F1⟩
  have HO := Lib.hid (And.intro hout F1)
  unfold gensReadOut at hout
  cases r with
  | error x =>
    obtain ⟨rfl, -⟩ := hout
    clear F1
    go_wp2_with fail
    exact bodyPost_ret (v := .tuple #[.slice none 0 0, .int .i64 x]) (by simp [results, Tryz.results28, go_sem]) rfl HO.out
  | ok lm =>
    obtain ⟨l, m⟩ := lm
    obtain ⟨a, cc, rfl, -⟩ := hout
    clear F1
    go_wp2_with fail
    exact bodyPost_ret (v := .tuple #[.slice a l.length cc, .int .i64 0]) (by simp [results, Tryz.results28, go_sem]) rfl HO.out
end Go.Proofs.YthamenngccaijaaGreatDoor

namespace Go.Q
open Go Go.RowKit
end Go.Q
namespace Go.Proofs.YthamenngccaijaaGreatDoor
open Go Go.RowKit Go.Q
set_option linter.unusedSimpArgs false
end Go.Proofs.YthamenngccaijaaGreatDoor

namespace Go.Proofs.YthamenngccaijaaGreatDoor
open Go Go.RowKit Go.Q
set_option linter.unusedSimpArgs false
def rOpenOut (v : Value) (l : List UInt8) (p : Nat) (r : Except Int (List UInt8 × Nat)) (e : Ending) : Prop :=
  match r with
  | .error x => e = .returned (.tuple #[.slice none 0 0, .int .i64 p, .int .i64 x])
  | .ok (y, k) => ∃ A c, e = .returned (.tuple #[.slice A y.length c, .int .i64 ((p + k : Nat) : Int), .int .i64 0]) ∧ ∀ W, Bytes W v l → Bytes W (.slice A y.length c) y
end Go.Proofs.YthamenngccaijaaGreatDoor

namespace Go.Q
open Go Go.RowKit
end Go.Q
namespace Go.Proofs.YthamenngccaijaaGreatDoor
open Go Go.RowKit Go.Q
set_option linter.unusedSimpArgs false
end Go.Proofs.YthamenngccaijaaGreatDoor

namespace Go.Proofs.YthamenngccaijaaGreatDoor
open Go Go.RowKit Go.Q
set_option linter.unusedSimpArgs false
end Go.Proofs.YthamenngccaijaaGreatDoor

namespace Go.Proofs.YthamenngccaijaaGreatDoor
open Go Go.RowKit Go.Q
set_option linter.unusedSimpArgs false
def rOidOut (w w' : World) (p : Nat) (r : Except Int (List Int × Nat)) (e : Ending) : Prop :=
  match r with
  | .error x => e = .returned (.tuple #[.slice none 0 0, .int .i64 p, .int .i64 x])
  | .ok (o, k) => ∃ a c, e = .returned (.tuple #[.slice a o.length c, .int .i64 ((p + k : Nat) : Int), .int .i64 0]) ∧ w'.ownsRow w.heap.size 3 1 (.slice a o.length c) o.length (intCells o)
end Go.Proofs.YthamenngccaijaaGreatDoor

namespace Go.Proofs.YthamenngccaijaaGreatDoor
open Go Go.RowKit Go.Q
set_option linter.unusedSimpArgs false
def rStepOut (K : Nat → Prop) (w' : World) (p : Nat) (r : Except Int (List Part × Nat)) (e : Ending) : Prop :=
  match r with
  | .error x => e = .returned (.tuple #[.slice none 0 0, .int .i64 p, .int .i64 x])
  | .ok (l, k) => ∃ a c, e = .returned (.tuple #[.slice a l.length c, .int .i64 ((p + k : Nat) : Int), .int .i64 0]) ∧ Kept (fun W => Attrs W (.slice a l.length c) l) K w'
theorem rdnRead_nz {l : List UInt8} {x : Int} (h : rdnReadS l = .error x) : x ≠ 0 := by
  have part : ∀ {l : List UInt8} {x : Int}, partReadS l = .error x → x ≠ 0 := fun {l x} h => by
    unfold partReadS at h
    split at h
    · rename_i hx
      cases h
      exact openS_nz hx
    split at h
    · rename_i hx
      cases h
      exact oidRead_nz hx
    split at h
    · rename_i hx
      cases h
      exact oneS_nz hx
    split at h
    · cases h; decide
    · cases h
  have go : ∀ (f : Nat) (out : List Part) (last l : List UInt8) (x : Int), l.length ≤ f → rdnGoS f out last l = .error x → x ≠ 0 := fun f => by
    induction f with
    | zero =>
      intro out last l x hl h
      obtain rfl : l = [] := List.length_eq_zero_iff.1 (by omega)
      simp only [rdnGoS] at h
      split at h
      · cases h; decide
      · cases h
    | succ f ih =>
      intro out last l x hl h
      cases l with
      | nil =>
        simp only [rdnGoS] at h
        split at h
        · cases h; decide
        · cases h
      | cons y t =>
        simp only [rdnGoS] at h
        split at h
        · cases h; decide
        split at h
        · rename_i hx
          cases h
          exact part hx
        rename_i q m hx
        have hb := partRead_back hx
        split at h
        · cases h; decide
        split at h
        · cases h; decide
        exact ih _ _ _ _ (by simp only [List.length_drop, List.length_cons] at hl ⊢; omega) h
  unfold rdnReadS at h
  split at h
  · rename_i hx
    cases h
    exact openS_nz hx
  split at h
  · rename_i hx
    cases h
    exact go _ _ _ _ _ (Nat.le_refl _) hx
  · cases h
end Go.Proofs.YthamenngccaijaaGreatDoor

namespace Go.Q
open Go Go.RowKit
theorem nameRead_nz {l : List UInt8} {x : Int} (h : nameReadS l = .error x) : x ≠ 0 := by
  have go : ∀ (f : Nat) (out : List (List Part)) (l : List UInt8) (x : Int), l.length ≤ f → nameGoS f out l = .error x → x ≠ 0 := fun f => by
    induction f with
    | zero =>
      intro out l x hl h
      obtain rfl : l = [] := List.length_eq_zero_iff.1 (by omega)
      cases h
    | succ f ih =>
      intro out l x hl h
      cases l with
      | nil => cases h
      | cons y t =>
        simp only [nameGoS] at h
        split at h
        · cases h; decide
        split at h
        · rename_i hx
          cases h
          exact Go.Proofs.YthamenngccaijaaGreatDoor.rdnRead_nz hx
        rename_i q m hx
        have hb := rdnRead_len hx
        exact ih _ _ _ (by simp only [List.length_drop, List.length_cons] at hl ⊢; omega) h
  unfold nameReadS at h
  split at h
  · rename_i hx
    cases h
    exact openS_nz hx
  split at h
  · rename_i hx
    cases h
    exact go _ _ _ _ (Nat.le_refl _) hx
  · cases h
end Go.Q
namespace Go.Proofs.YthamenngccaijaaGreatDoor
open Go Go.RowKit Go.Q
set_option linter.unusedSimpArgs false
def rNameOut (K : Nat → Prop) (w' : World) (p : Nat) (r : Except Int (List (List Part) × Nat)) (e : Ending) : Prop :=
  match r with
  | .error x => e = .returned (.tuple #[.slice none 0 0, .int .i64 p, .int .i64 x])
  | .ok (l, k) => ∃ a c, e = .returned (.tuple #[.slice a l.length c, .int .i64 ((p + k : Nat) : Int), .int .i64 0]) ∧ Kept (fun W => NameAt W (.slice a l.length c) l) K w'
def rParseOut (K : Nat → Prop) (w' : World) (r : Except Int (List (List Part))) (e : Ending) : Prop :=
  match r with
  | .error x => e = .returned (.tuple #[.slice none 0 0, .int .i64 x])
  | .ok l => ∃ a c, e = .returned (.tuple #[.slice a l.length c, .int .i64 0]) ∧ Kept (fun W => NameAt W (.slice a l.length c) l) K w'
end Go.Proofs.YthamenngccaijaaGreatDoor

namespace Go.Proofs.YthamenngccaijaaGreatDoor
open Go Go.RowKit Go.Q
set_option linter.unusedSimpArgs false
theorem nameParseNz {l : List UInt8} {x : Int} (h : nameParseS l = .error x) : x ≠ 0 := by
  unfold nameParseS at h
  split at h
  · rename_i e he
    simp only [Except.error.injEq] at h
    subst h
    exact nameRead_nz he
  · split at h
    · simp only [Except.error.injEq] at h
      subst h
      decide
    · cases h
def rGenOut (K : Nat → Prop) (w' : World) (p : Nat) (r : Except Int (Gen × Nat)) (e : Ending) : Prop :=
  match r with
  | .error x => e = .returned (.tuple #[.agg #[.int .i64 0, .slice none 0 0, .slice none 0 0], .int .i64 p, .int .i64 x])
  | .ok (g, k) => ∃ ab cb an cn, e = .returned (.tuple #[.agg #[.int .i64 g.k, .slice ab g.b.length cb, .slice an g.n.length cn], .int .i64 ((p + k : Nat) : Int), .int .i64 0]) ∧ Kept (fun W => Bytes W (.slice ab g.b.length cb) g.b ∧ NameAt W (.slice an g.n.length cn) g.n) K w'
end Go.Proofs.YthamenngccaijaaGreatDoor

namespace Go.Proofs.YthamenngccaijaaGreatDoor
open Go Go.RowKit Go.Q
set_option linter.unusedSimpArgs false
def rGensOut (K : Nat → Prop) (w' : World) (r : Except Int (List Gen)) (e : Ending) : Prop :=
  match r with
  | .error x => e = .returned (.tuple #[.slice none 0 0, .int .i64 x])
  | .ok gs => ∃ a c, e = .returned (.tuple #[.slice a gs.length c, .int .i64 0]) ∧ Kept (fun W => Gens W (.slice a gs.length c) gs) K w'
theorem genRead_nz {l : List UInt8} {x : Int} (h : genReadS l = .error x) : x ≠ 0 := by
  unfold genReadS at h
  split at h
  · rename_i e he
    simp only [Except.error.injEq] at h
    subst h
    exact readS_err he
  · split at h
    · simp only [Except.error.injEq] at h
      subst h
      decide
    split at h
    · simp only [Except.error.injEq] at h
      subst h
      decide
    split at h
    · split at h
      · rename_i e he
        simp only [Except.error.injEq] at h
        subst h
        exact nameParseNz he
      · cases h
    split at h
    · cases h
    · simp only [Except.error.injEq] at h
      subst h
      decide
def rListOut (K : Nat → Prop) (w' : World) (p : Nat) (r : Except Int (List Gen × Nat)) (e : Ending) : Prop :=
  match r with
  | .error x => e = .returned (.tuple #[.slice none 0 0, .int .i64 p, .int .i64 x])
  | .ok (gs, k) => ∃ a c, e = .returned (.tuple #[.slice a gs.length c, .int .i64 ((p + k : Nat) : Int), .int .i64 0]) ∧ Kept (fun W => Gens W (.slice a gs.length c) gs) K w'
theorem genAll_nz {l : List UInt8} {x : Int} (h : genAllS l = .error x) : x ≠ 0 := by
  have key : ∀ (f : Nat) (out : List Gen) (l : List UInt8), l.length ≤ f → genSt out l = .error x → x ≠ 0 := by
    intro f
    induction f with
    | zero =>
      intro out l hf h
      obtain rfl : l = [] := List.length_eq_zero_iff.1 (by omega)
      cases h
    | succ f ih =>
      intro out l hf h
      by_cases h0 : l = []
      · subst h0
        cases h
      by_cases hm : out.length = 10000
      · rw [genSt, manySt_full h0 hm] at h
        cases h
        decide
      cases hr : genReadS l with
      | error y =>
        rw [genSt, manySt_err h0 hm hr] at h
        cases h
        exact genRead_nz hr
      | ok gm =>
        obtain ⟨g, m⟩ := gm
        rw [genSt, manySt_ok genRead_pos h0 hm hr] at h
        have := genRead_pos _ _ _ hr
        have h1 : 0 < l.length := List.length_pos_iff.2 h0
        exact ih _ _ (by rw [List.length_drop]; omega) h
  unfold genAllS at h
  split at h
  · cases h
    decide
  · exact key _ _ _ (Nat.le_refl _) h
end Go.Proofs.YthamenngccaijaaGreatDoor

namespace Go.Q
open Go Go.RowKit
end Go.Q
namespace Go.Proofs.YthamenngccaijaaGreatDoor
open Go Go.RowKit Go.Q
set_option linter.unusedSimpArgs false
end Go.Proofs.YthamenngccaijaaGreatDoor

namespace Go.Q
open Go Go.RowKit
instance : DecidableEq Gen := fun p q => if h : p.k = q.k ∧ p.b = q.b ∧ p.n = q.n then isTrue (by cases p; cases q; simp_all) else isFalse (fun e => h (by rw [e]; exact ⟨rfl, rfl, rfl⟩))
end Go.Q
namespace Go.Proofs.YthamenngccaijaaGreatDoor
open Go Go.RowKit Go.Q
set_option linter.unusedSimpArgs false
end Go.Proofs.YthamenngccaijaaGreatDoor

namespace Go.Q
open Go Go.RowKit
def nmVal : Except Int (List (List Part) × Nat) → List (List Part) | .ok (n, _) => n | .error _ => []
def stVal : Except Int (List Part × Nat) → List Part | .ok (n, _) => n | .error _ => []
def psVal : Except Int (List (List Part)) → List (List Part) | .ok n => n | .error _ => []
def atOf {α : Type} : Except Int (α × Nat) → Nat | .ok (_, k) => k | .error _ => 0
def errOf {α : Type} : Except Int α → Int | .ok _ => 0 | .error x => x
theorem NameAt.nil0 (w : World) : NameAt w (.slice none 0 0) [] := ⟨none, 0, rfl, Nat.le_refl _, Nat.zero_le _, fun h => absurd h (Nat.lt_irrefl _)⟩
theorem Attrs.nil0 (w : World) : Attrs w (.slice none 0 0) [] := ⟨none, 0, rfl, Nat.le_refl _, Nat.zero_le _, fun h => absurd h (Nat.lt_irrefl _)⟩
theorem NameAt.one {w : World} {g : Nat} {t : TypeId} {u : Value} {r : List Part} (B : Blk w g t #[u]) (h : Attrs w u r) : NameAt w (.slice (some ⟨g, 0, none⟩) 1 1) [r] :=
  ⟨_, 1, rfl, Nat.le_refl _, by unfold maxLen; omega, fun _ => ⟨g, 0, rfl, fun i q hq => by
    match i, hq with
    | 0, hq =>
      simp only [List.getElem?_cons_zero, Option.some.injEq] at hq
      subst hq
      exact ⟨u, B.cell 0, h⟩
    | i + 1, hq => simp at hq⟩⟩
end Go.Q
namespace Go.Proofs.YthamenngccaijaaGreatDoor
open Go Go.RowKit Go.Q
end Go.Proofs.YthamenngccaijaaGreatDoor

namespace Go.Q
open Go Go.RowKit
end Go.Q

namespace Go.Q
open Go Go.RowKit
def gVal : Except Int (Gen × Nat) → Gen | .ok (g, _) => g | .error _ => ⟨0, [], []⟩
def gsVal : Except Int (List Gen × Nat) → List Gen | .ok (g, _) => g | .error _ => []
def gaVal : Except Int (List Gen) → List Gen | .ok g => g | .error _ => []
def smallG (g : Gen) : Prop := g.n.length ≤ 64 ∧ ∀ r ∈ g.n, r.length ≤ 16
def allAt (l : List UInt8) : Nat := match genAllS l with | .ok _ => l.length | .error _ => 0
theorem Gens.nil0 (w : World) : Gens w (.slice none 0 0) [] := ⟨none, 0, rfl, Nat.le_refl _, Nat.zero_le _, fun h => absurd h (Nat.lt_irrefl _)⟩
end Go.Q
namespace Go.Proofs.YthamenngccaijaaGreatDoor
open Go Go.RowKit Go.Q
theorem genRead_one {w : World} {c : Nat} {K : Nat → Prop} {bs : List UInt8} {p : Nat} (h : CurAt w c K bs p) (hbs : bs.length ≤ 10000000) :
    Calls Tryz.prog 26 #[pt c] w fun e w' => (∃ ab cb an cn, e = .returned (.tuple #[.agg #[.int .i64 (gVal (genReadS (bs.drop p))).k, .slice ab (gVal (genReadS (bs.drop p))).b.length cb, .slice an (gVal (genReadS (bs.drop p))).n.length cn], .int .i64 (errOf (genReadS (bs.drop p)))]) ∧ Kept (fun W => Bytes W (.slice ab (gVal (genReadS (bs.drop p))).b.length cb) (gVal (genReadS (bs.drop p))).b ∧ NameAt W (.slice an (gVal (genReadS (bs.drop p))).n.length cn) (gVal (genReadS (bs.drop p))).n) (fun k => k < w.heap.size) w' ∧ CurAt w' c K bs (p + atOf (genReadS (bs.drop p)))) ∧ Fr (fun k => k = c) w w' :=
  (genRead_any h hbs).mono fun e w' ⟨h1, F⟩ => by
    refine ⟨?_, F⟩
    unfold genReadOut at h1
    cases hr : genReadS (bs.drop p) with
    | error x =>
      rw [hr] at h1
      exact ⟨none, 0, none, 0, h1.1, (bytes_nil _ _).both (name_nil _ _), h1.2.2⟩
    | ok lm =>
      rw [hr] at h1
      exact h1
theorem readAll_one {w : World} {c : Nat} {K : Nat → Prop} {bs : List UInt8} {p : Nat} (h : CurAt w c K bs p) (hbs : bs.length ≤ 10000000) :
    Calls Tryz.prog 28 #[pt c] w fun e w' => (∃ a cc, e = .returned (.tuple #[.slice a (gaVal (genAllS (bs.drop p))).length cc, .int .i64 (errOf (genAllS (bs.drop p)))]) ∧ Kept (fun W => Gens W (.slice a (gaVal (genAllS (bs.drop p))).length cc) (gaVal (genAllS (bs.drop p)))) (fun k => k < w.heap.size) w' ∧ CurAt w' c K bs (p + allAt (bs.drop p))) ∧ Fr (fun k => k = c) w w' :=
  (readAll_any h hbs).mono fun e w' ⟨h1, F⟩ => by
    refine ⟨?_, F⟩
    unfold gensReadOut genAllR at h1
    unfold allAt
    cases hr : genAllS (bs.drop p) with
    | error x =>
      rw [hr] at h1
      exact ⟨none, 0, h1.1, fun W _ => Gens.nil0 W, h1.2.2⟩
    | ok lm =>
      rw [hr] at h1
      exact h1
end Go.Proofs.YthamenngccaijaaGreatDoor

namespace Go.Q
open Go Go.RowKit
theorem wname_small {g : Gen} (h4 : g.k = 4) (hb : (genBody g).length ≤ 16777216) : (wholesN g.n).flatten.length ≤ 16777216 := by
  have : genBody g = nameWhole g.n := if_pos h4
  rw [this] at hb
  unfold nameWhole at hb
  rw [wrap_len] at hb
  omega
theorem wname_ok {g : Gen} (h : genOk g = true) (h4 : g.k = 4) : nameOk g.n = true := by
  unfold genOk at h
  rw [if_pos h4, Bool.and_eq_true] at h
  exact h.2
theorem body_le_whole (g : Gen) : (genBody g).length < (genWhole g).length := by
  unfold genWhole
  rw [wrap_len]
  omega
end Go.Q
namespace Go.Proofs.YthamenngccaijaaGreatDoor
open Go Go.RowKit Go.Q
set_option linter.unusedSimpArgs false
set_option maxRecDepth 20000 in
set_option maxHeartbeats 4000000 in
theorem genWrite_ok (u : Value) (g : Gen) (w : World) (h : GenAt w u g) (hf : fewG g) (hok : genOk g = true) (hb : (genBody g).length ≤ 16777216) :
    Calls Tryz.prog 41 #[u] w fun e w' => (∃ a c, e = .returned (.tuple #[.slice a (genWhole g).length c, .int .i64 0]) ∧ w'.ownsRow w.heap.size 5 1 (.slice a (genWhole g).length c) (genWhole g).length (Lib.byteCells (genWhole g))) ∧ Fr (fun _ => False) w w' := by
  obtain ⟨ab, cb, an, cn, rfl, hbb, hn⟩ := h.form
  obtain ⟨k0, k8⟩ := gen_kind hok
  obtain ⟨z, hz⟩ : ∃ z, z = w.heap.size := ⟨_, rfl⟩
  have HZ := Lib.hid hz
  have F0 : Fr (fun _ => False) w (w.alloc (.cells #[.int .i64 g.k, .slice ab g.b.length cb, .slice an g.n.length cn] 43)) := (Fr.refl w).alloc _
  have B := Blk.new w 43 #[.int .i64 g.k, .slice ab g.b.length cb, .slice an g.n.length cn]
  rw [← hz] at B
  have HR := genRight_any _ g _ (h.old F0) hf
  rw [hok] at HR
  have HRI := Lib.hid HR
  have HF0 := Lib.hid F0
  have HB := Lib.hid (hbb.old F0)
  have HN := Lib.hid (hn.old F0)
  have HFW := Lib.hid hf
  have HTG := Lib.hid (genTag_good k0 k8)
  have HTE := Lib.hid (show tagV (genTag g.k) = .agg #[.int .i64 2, .int .i64 g.k, .bool (madeG g.k)] from rfl)
  have HWH := Lib.hid (show genWhole g = wrapS (genTag g.k) (genBody g) from rfl)
  have HGT := Lib.hid (fun w => genTag_any g.k w)
  have hcase : (g.k = 4 ∧ (nameOk g.n = true ∧ (wholesN g.n).flatten.length ≤ 16777216 ∧ genBody g = nameWhole g.n)) ∨ ((g.k == 4) = false ∧ genBody g = g.b) := by
    by_cases h4 : g.k = 4
    · exact .inl ⟨h4, wname_ok hok h4, wname_small h4 hb, if_pos h4⟩
    · exact .inr ⟨beq_eq_false_iff_ne.2 h4, if_neg h4⟩
  clear h hbb hn F0 hz HR hok k0 k8 hf
  have HCS := Lib.hid hcase
  clear hcase
  go_enter Tryz.func41, Tryz.ntmps41
  go_upto_region 1 with fail
  rw [← HZ.out]
  generalize (w.alloc (.cells #[.int .i64 g.k, .slice ab g.b.length cb, .slice an g.n.length cn] 43)) = w0 at *
  have HBL := Lib.hid B
  have e0 := B.cell 0
  have e1 := B.cell 1
  have e2 := B.cell 2
  simp only [List.getElem?_toArray, List.getElem?_cons_succ, List.getElem?_cons_zero] at e0 e1 e2
  clear B
  go_wp2_with fail
  refine HRI.out.mono ?_
  rintro e w1 ⟨rfl, F1⟩
  have HB1 := Lib.hid (HB.out.old F1)
  have HN1 := Lib.hid (HN.out.old F1)
  have B1 := HBL.out.fr F1 (fun h => h)
  have HBL1 := Lib.hid B1
  have HF1 := Lib.hid (HF0.out.trans F1)
  clear e0 e1 e2 HB HN HBL HF0 F1 HRI
  have e0 := B1.cell 0
  have e1 := B1.cell 1
  have e2 := B1.cell 2
  simp only [List.getElem?_toArray, List.getElem?_cons_succ, List.getElem?_cons_zero] at e0 e1 e2
  clear B1
  rcases HCS.out with ⟨k4, hk⟩ | ⟨k4, hk⟩
  case inl =>
    have q4 : (g.k == 4) = true := by rw [k4]; rfl
    have HW := Lib.hid (nameWrite_ok _ g.n w1 HN1.out HFW.out.2 hk.1 hk.2.1)
    rw [hk.2.2] at hb HWH
    clear hk HCS k4
    go_wp2_with fail
    refine HW.out.mono ?_
    rintro e w2 ⟨⟨a2, c2, rfl, ho⟩, F2⟩
    have HV := Lib.hid (Vals.of_own ho).1
    have HF2 := Lib.hid (HF1.out.trans F2)
    have B2 := HBL1.out.fr F2 (fun h => h)
    clear ho F2 HW HF1 e0 e1 e2
    generalize nameWhole g.n = body at *
    have e0 := B2.cell 0
    have e1 := B2.cell 1
    have e2 := B2.cell 2
    simp only [List.getElem?_toArray, List.getElem?_cons_succ, List.getElem?_cons_zero] at e0 e1 e2
    go_upto_region 9 with fail
    go_wp2_with fail
    refine (HGT.out w2).mono ?_
    rintro e w3 ⟨rfl, F3⟩
    have HO := wrap_any (genTag g.k) HTG.out _ [body] _ (Parts.one (HV.out.old F3)) (by simpa using hb) (by simp)
    rw [HTE.out, List.flatten_singleton, ← HWH.out] at HO
    have HOI := Lib.hid HO
    have F4 := (HF2.out.trans F3).alloc (.cells #[.slice a2 body.length c2] 23)
    have HF4 := Lib.hid F4
    rw [HTE.out]
    clear F3 HO F4
    go_wp2_with fail
    refine HOI.out.mono ?_
    rintro e w4 ⟨v4, rfl, ho, F5⟩
    obtain ⟨av, m4, cv, rfl, rfl⟩ := own_shape ho
    have HF5 := Lib.hid (HF4.out.trans F5)
    have HOW := Lib.hid (own_le ho (base' := w.heap.size) HF4.out.size)
    clear ho F5
    go_wp2_with fail
    exact bodyPost_ret (v := .tuple #[.slice av (genWhole g).length cv, .int .i64 0]) (by simp [results, Tryz.results41, go_sem]) rfl ⟨⟨av, cv, rfl, HOW.out⟩, HF5.out⟩
  case inr =>
    rw [hk] at hb HWH
    have HV := HB1
    have HF2 := HF1
    clear hk HCS HF1
    go_upto_region 9 with fail
    go_wp2_with fail
    refine (HGT.out w1).mono ?_
    rintro e w3 ⟨rfl, F3⟩
    have HO := wrap_any (genTag g.k) HTG.out _ [g.b] _ (Parts.one (HV.out.old F3)) (by simpa using hb) (by simp)
    rw [HTE.out, List.flatten_singleton, ← HWH.out] at HO
    have HOI := Lib.hid HO
    have F4 := (HF2.out.trans F3).alloc (.cells #[.slice ab g.b.length cb] 23)
    have HF4 := Lib.hid F4
    rw [HTE.out]
    clear F3 HO F4
    go_wp2_with fail
    refine HOI.out.mono ?_
    rintro e w4 ⟨v4, rfl, ho, F5⟩
    obtain ⟨av, m4, cv, rfl, rfl⟩ := own_shape ho
    have HF5 := Lib.hid (HF4.out.trans F5)
    have HOW := Lib.hid (own_le ho (base' := w.heap.size) HF4.out.size)
    clear ho F5
    go_wp2_with fail
    exact bodyPost_ret (v := .tuple #[.slice av (genWhole g).length cv, .int .i64 0]) (by simp [results, Tryz.results41, go_sem]) rfl ⟨⟨av, cv, rfl, HOW.out⟩, HF5.out⟩
end Go.Proofs.YthamenngccaijaaGreatDoor

namespace Go.Q
open Go Go.RowKit
def genAll (l : List Gen) : List UInt8 := (l.map genWhole).flatten
theorem genAll_take {l : List Gen} {j : Nat} {x : Gen} (h : l[j]? = some x) : genAll (l.take (j + 1)) = genAll (l.take j) ++ genWhole x := by
  unfold genAll
  rw [List.take_add_one, h]
  simp
end Go.Q
namespace Go.Proofs.YthamenngccaijaaGreatDoor
open Go Go.RowKit Go.Q
set_option linter.unusedSimpArgs false
def allOkS (l : List Gen) : Bool := l.all genOk && decide (0 < l.length ∧ l.length ≤ 10000)
end Go.Proofs.YthamenngccaijaaGreatDoor

namespace Go.Proofs.YthamenngccaijaaGreatDoor
open Go Go.RowKit Go.Q
set_option linter.unusedSimpArgs false
theorem genAll_part (l : List Gen) (j : Nat) : (genAll (l.take j)).length ≤ (genAll l).length := by
  unfold genAll
  rw [List.map_take]
  have h : (l.map genWhole).flatten = ((l.map genWhole).take j).flatten ++ ((l.map genWhole).drop j).flatten := by rw [← List.flatten_append, List.take_append_drop]
  rw [h, List.length_append]
  omega
theorem gen_part {l : List Gen} {g : Gen} (h : g ∈ l) : (genWhole g).length ≤ (genAll l).length := mem_flat (List.mem_map.2 ⟨g, h, rfl⟩)
set_option maxRecDepth 100000 in
set_option maxHeartbeats 4000000 in
theorem genWriteAll_any (v : Value) (l : List Gen) (w : World) (h : Gens w v l) (hf : ∀ g ∈ l, fewG g) (hb : allOkS l = true → (genAll l).length ≤ 16777216) :
    Calls Tryz.prog 46 #[v] w fun e w' => ((allOkS l = false ∧ e = .returned (.tuple #[.slice none 0 0, .int .i64 1])) ∨ (allOkS l = true ∧ ∃ a c, e = .returned (.tuple #[.slice a (genAll l).length c, .int .i64 0]) ∧ w'.ownsRow w.heap.size 5 1 (.slice a (genAll l).length c) (genAll l).length (Lib.byteCells (genAll l)))) ∧ Fr (fun _ => False) w w' := by
  have H := Lib.hid h
  have HFW := Lib.hid hf
  have HBD := Lib.hid hb
  obtain ⟨a, cap, rfl, hc, hm, -⟩ := h
  have hm2 : l.length ≤ 9223372036854775807 := by unfold maxLen at hm; omega
  have HAO := Lib.hid (show allOkS l = (l.all genOk && decide (0 < l.length ∧ l.length ≤ 10000)) from rfl)
  have hcase : (allOkS l = false ∧ l.length = 0) ∨ (allOkS l = false ∧ 0 < l.length ∧ 10000 < l.length) ∨ (0 < l.length ∧ l.length ≤ 10000) := by
    rcases Nat.eq_zero_or_pos l.length with h0 | h0
    · refine .inl ⟨?_, h0⟩
      rw [HAO.out, decide_eq_false (show ¬ (0 < l.length ∧ l.length ≤ 10000) by omega), Bool.and_false]
    · by_cases h1 : l.length ≤ 10000
      · exact .inr (.inr ⟨h0, h1⟩)
      · refine .inr (.inl ⟨?_, h0, by omega⟩)
        rw [HAO.out, decide_eq_false (show ¬ (0 < l.length ∧ l.length ≤ 10000) by omega), Bool.and_false]
  have HCS := Lib.hid hcase
  clear hf hb hc hm hcase
  rcases HCS.out with ⟨hao, h0⟩ | ⟨hao, h0, h1⟩ | ⟨h0, h1⟩
  case inl =>
    have q1 : ((l.length : Int) == 0) = true := by rw [h0]; rfl
    have HA := Lib.hid hao
    clear hao h0
    go_enter Tryz.func46, Tryz.ntmps46
    go_wp2_with fail
    exact bodyPost_ret (v := .tuple #[.slice none 0 0, .int .i64 1]) (by simp [results, Tryz.results46, go_sem]) rfl ⟨.inl ⟨HA.out, rfl⟩, Fr.refl _⟩
  case inr.inl =>
    have q1 : ((l.length : Int) == 0) = false := beq_eq_false_iff_ne.2 (by omega)
    have q2 : (10000 : Int) < (l.length : Int) := by omega
    have HA := Lib.hid hao
    clear hao h0
    go_enter Tryz.func46, Tryz.ntmps46
    go_wp2_with fail
    exact bodyPost_ret (v := .tuple #[.slice none 0 0, .int .i64 1]) (by simp [results, Tryz.results46, go_sem]) rfl ⟨.inl ⟨HA.out, rfl⟩, Fr.refl _⟩
  have q1 : ((l.length : Int) == 0) = false := beq_eq_false_iff_ne.2 (by omega)
  have q2 : ¬ (10000 : Int) < (l.length : Int) := by omega
  have HLE := Lib.hid (decide_eq_true (show 0 < l.length ∧ l.length ≤ 10000 from ⟨h0, h1⟩))
  have HL1 := Lib.hid h1
  clear h0 h1 HCS
  go_enter Tryz.func46, Tryz.ntmps46
  go_wp2_with fail
  go_loopg [21] l.length (fun g i wr => ∃ j : Nat, g = l.length - j ∧ j ≤ l.length ∧ i = .int .i64 j ∧ (∀ x ∈ l.take j, genOk x = true) ∧ Fr (fun _ => False) w wr)
  case atStart => exact ⟨0, rfl, Nat.zero_le _, rfl, by simp, Fr.refl _⟩
  case round =>
    obtain ⟨j, hg, hj, rfl, he, F⟩ := hrel
    have HG := Lib.hid hg
    have HE := Lib.hid he
    have HF := Lib.hid F
    clear hg he
    by_cases hjl : j < l.length
    · obtain ⟨x, hx⟩ : ∃ x, l[j]? = some x := ⟨_, List.getElem?_eq_getElem hjl⟩
      obtain ⟨b, o, ab, cb, an, cn, rfl, -, hga, e0, e1, e2⟩ := (H.out.old F).get hx
      have r1 : (0 : Int) ≤ (j : Int) := by omega
      have r2 : (j : Int) < (l.length : Int) := by omega
      have Fa : Fr (fun _ => False) wr (wr.alloc (.cells #[.int .i64 x.k, .slice ab x.b.length cb, .slice an x.n.length cn] 43)) := (Fr.refl wr).alloc _
      have HR := Lib.hid (genRight_any _ x _ (hga.old Fa) (HFW.out x (List.mem_of_getElem? hx)))
      have HX := Lib.hid hx
      obtain ⟨d, hd⟩ : ∃ d, d = genOk x := ⟨_, rfl⟩
      rw [← hd] at HR
      have HD := Lib.hid hd
      have HFa := Lib.hid (HF.out.trans Fa)
      clear hx hga hd F Fa
      go_wp2_with fail
      refine HR.out.mono ?_
      rintro e w2 ⟨rfl, F2⟩
      have HF2 := Lib.hid (HFa.out.trans F2)
      clear F2 e0 e1 e2 HR HFa
      cases d with
      | false =>
        have HN := Lib.hid (show l.all genOk = false from List.all_eq_false.2 ⟨x, List.mem_of_getElem? HX.out, by rw [← HD.out]; exact Bool.false_ne_true⟩)
        go_wp2_with fail
        exact bodyPost_ret (v := .tuple #[.slice none 0 0, .int .i64 1]) (by simp [results, Tryz.results46, go_sem]) rfl ⟨.inl ⟨by rw [HAO.out, HN.out, Bool.false_and], rfl⟩, HF2.out⟩
      | true =>
        have HN := Lib.hid (show ∀ y ∈ l.take (j + 1), genOk y = true from fun y hy => by
          rw [List.take_add_one, HX.out] at hy
          rcases List.mem_append.1 hy with h | h
          · exact HE.out y h
          · simp at h
            rw [h]
            exact HD.out.symm)
        go_wp2_with fail
        go_roundg (l.length - (j + 1))
        case measure => rw [HG.out]; omega
        case rel => exact ⟨j + 1, rfl, by omega, by go_num, HN.out, HF2.out⟩
    · have hall := HE.out
      rw [List.take_of_length_le (by omega)] at hall
      have HN := Lib.hid (show l.all genOk = true from List.all_eq_true.2 hall)
      have HOK := Lib.hid hall
      have HAT := Lib.hid (show allOkS l = true by rw [HAO.out, HN.out, HLE.out]; rfl)
      have HSZ := Lib.hid (HBD.out HAT.out)
      obtain ⟨w1, hw1⟩ : ∃ w1, w1 = wr := ⟨_, rfl⟩
      rw [← hw1] at F ⊢
      have HF1 := Lib.hid F
      clear hall hw1 F HF HE HG hj
      have hjj : ¬ (j : Int) < (l.length : Int) := by omega
      clear hjl
      go_wp2_with fail
      go_loopg [6, 31] l.length (fun g u i wr => ∃ (j : Nat) (a2 : Option Addr) (c2 : Nat) (ws : List UInt8), g = l.length - j ∧ j ≤ l.length ∧ u = .slice a2 ws.length c2 ∧ i = .int .i64 j ∧ wr.ownsRow w.heap.size 5 1 (.slice a2 ws.length c2) ws.length (Lib.byteCells ws) ∧ Hid (ws = genAll (l.take j)) ∧ Fr (fun _ => False) w wr)
      case atStart => exact ⟨0, none, 0, [], rfl, Nat.zero_le _, rfl, rfl, ⟨rfl, .inl ⟨rfl, rfl⟩⟩, Lib.hid rfl, HF1.out⟩
      case round =>
        obtain ⟨j, a2, c2, ws, hg, hj, rfl, rfl, ho, HWS, F⟩ := hrel
        have HG := Lib.hid hg
        have HF := Lib.hid F
        have HOW := Lib.hid ho
        clear hg ho hjj
        by_cases hjl : j < l.length
        · obtain ⟨x, hx⟩ : ∃ x, l[j]? = some x := ⟨_, List.getElem?_eq_getElem hjl⟩
          obtain ⟨b, o, ab, cb, an, cn, rfl, -, hga, e0, e1, e2⟩ := (H.out.old F).get hx
          have r1 : (0 : Int) ≤ (j : Int) := by omega
          have r2 : (j : Int) < (l.length : Int) := by omega
          have hm := List.mem_of_getElem? hx
          have Fa : Fr (fun _ => False) wr (wr.alloc (.cells #[.int .i64 x.k, .slice ab x.b.length cb, .slice an x.n.length cn] 43)) := (Fr.refl wr).alloc _
          have hxl := gen_part hm
          have hbl := body_le_whole x
          have hsz := HSZ.out
          have HR := Lib.hid (genWrite_ok _ x _ (hga.old Fa) (HFW.out x hm) (HOK.out x hm) (by omega))
          have HFa := Lib.hid (HF.out.trans Fa)
          have HFb := Lib.hid Fa
          have HFT := Lib.hid (genAll_take hx)
          have hpt : ws.length + (genWhole x).length ≤ 16777216 := by
            have h1 := genAll_part l (j + 1)
            rw [HFT.out, ← HWS.out, List.length_append] at h1
            omega
          clear hx hga hm F Fa hxl hbl hsz
          generalize genWhole x = gw at *
          have q5 : ¬ (16777216 : Int) < ((ws.length + gw.length : Nat) : Int) := by omega
          have q6 : ¬ (16777216 : Int) < (ws.length : Int) + (gw.length : Int) := by omega
          go_wp2_with fail
          refine HR.out.mono ?_
          rintro e w2 ⟨⟨a3, c3, rfl, ho3⟩, F2⟩
          have hown2 := ownsRow_fr (ownsRow_fr HOW.out HFb.out (fun _ _ h => h)) F2 (fun _ _ h => h)
          obtain ⟨v7, w7, hr7, ho7, F7, -⟩ := append_bytes hown2 a3 _ c3 gw (Vals.of_own ho3).1 (by omega) (HFa.out.trans F2).size
          have HF7 := Lib.hid ((HFa.out.trans F2).trans' F7 (fun i hi e => by have := ((Vals.of_own hown2).2 i e).1; omega))
          obtain ⟨a7, n7, c7, rfl, rfl⟩ := own_shape ho7
          rw [← List.length_append] at ho7
          have HO7 := Lib.hid ho7
          have HW7 := Lib.hid (show ws ++ gw = genAll (l.take (j + 1)) by rw [HFT.out, ← HWS.out])
          have HRUN := Lib.hid hr7
          clear F2 ho3 hown2 hr7 ho7 F7 e0 e1 e2 HR
          go_wp2_with (at_builtin; refine wpList_append_run (by rfl) (.tmp 43) (.tmp 44) 23 (by rfl) _ w7 (by exact HRUN.out) ?_)
          go_roundg (l.length - (j + 1))
          case measure => rw [HG.out]; omega
          case rel => exact ⟨j + 1, a7, c7, ws ++ gw, rfl, by omega, by rw [List.length_append], by go_num, HO7.out, HW7, HF7.out⟩
        · have hws := HWS.out
          rw [List.take_of_length_le (by omega)] at hws
          have HW := Lib.hid hws
          clear hws
          go_wp2_with fail
          refine bodyPost_ret (v := .tuple #[.slice a2 ws.length c2, .int .i64 0]) (by simp [results, Tryz.results46, go_sem]) rfl ?_
          rw [← HW.out]
          exact ⟨.inr ⟨HAT.out, a2, c2, rfl, HOW.out⟩, F⟩
end Go.Proofs.YthamenngccaijaaGreatDoor

namespace Go.Q
open Go Go.RowKit
theorem lowB_toNat (c : UInt8) : (lowB c).toNat = if 65 ≤ c.toNat ∧ c.toNat ≤ 90 then c.toNat + 32 else c.toNat := by
  unfold lowB
  split
  · rw [UInt8.toNat_add]
    have : (32 : UInt8).toNat = 32 := rfl
    omega
  · rfl
theorem lower_len (l : List UInt8) : (lowerS l).length = l.length := by simp [lowerS]
theorem dot_len (l : List UInt8) : (dotS l).length ≤ l.length := by
  unfold dotS
  split
  · rw [List.length_dropLast]; omega
  · omega
def labGo (done : List (List UInt8)) (one : List UInt8) : List UInt8 → Option (List (List UInt8))
  | [] => if 1 ≤ one.length ∧ one.length ≤ 63 then some (done ++ [one]) else none
  | c :: t => if c = 46 then (if 1 ≤ one.length ∧ one.length ≤ 63 then labGo (done ++ [one]) [] t else none) else if labelC c then labGo done (one ++ [c]) t else none
def labL (l : List UInt8) : Bool := decide (1 ≤ l.length ∧ l.length ≤ 63) && l.all labelC
def labelsS (l : List UInt8) : Option (List (List UInt8)) := if 253 < (dotS (lowerS l)).length then none else labGo [] [] (dotS (lowerS l))
end Go.Q

namespace Go.Proofs.YthamenngccaijaaGreatDoor
open Go Go.RowKit Go.Q
theorem str_size (l : List UInt8) : (ByteArray.mk l.toArray).size = l.length := by simp [ByteArray.size]
theorem str_to (l : List UInt8) (c : Nat) (hc : c ≤ l.length) (w : World) : (Instr.slice 9 (str l) none (some (.int .i64 (c : Int))) none).run Tryz.prog w = .ok (str (l.take c)) w := by
  rw [run_slice_string_to_if w 9 _ .i64 _ Tryz.underlying9, if_pos ⟨by omega, by rw [str_size]; omega⟩, ByteArray.extract_mk]
  simp
theorem str_from (l : List UInt8) (c : Nat) (hc : c ≤ l.length) (w : World) : (Instr.slice 9 (str l) (some (.int .i64 (c : Int))) none none).run Tryz.prog w = .ok (str (l.drop c)) w := by
  rw [run_slice_string_from_if w 9 _ .i64 _ Tryz.underlying9, if_pos ⟨by omega, by rw [str_size]; omega⟩, ByteArray.extract_mk, str_size, Int.toNat_natCast, List.take_of_length_le (by rw [List.length_drop]; omega)]
end Go.Proofs.YthamenngccaijaaGreatDoor

namespace Go.Q
open Go Go.RowKit
def Blf (w : World) (b : Nat) (t : TypeId) (cs : Array Value) : Prop := w.heap[b]? = some (.cells cs t (cs.size, cs.size + 1))
theorem Blf.cell {w : World} {b : Nat} {t : TypeId} {cs : Array Value} (h : Blf w b t cs) (i : Nat) : w.cell? ⟨b, i, none⟩ = cs[i]? := by
  unfold Blf at h; simp [World.cell?, h]
theorem Blf.frozen {w : World} {b : Nat} {t : TypeId} {cs : Array Value} (h : Blf w b t cs) {i : Nat} (hi : i < cs.size) : w.frozen? ⟨b, i, none⟩ = false := by
  unfold Blf at h
  simp only [World.frozen?, h]
  simp
  omega
theorem Blf.set {w : World} {b : Nat} {t : TypeId} {cs : Array Value} (h : Blf w b t cs) (i : Nat) (v : Value) : Blf (w.setCell ⟨b, i, none⟩ v) b t (cs.setIfInBounds i v) := by
  unfold Blf at *; simp [World.setCell, Array.getElem?_modify, h]
theorem Blf.bytes {w : World} {b : Nat} {t : TypeId} {cs : Array Value} (h : Blf w b t cs) {l : List UInt8} {n c : Nat} (hn : n = l.length) (hc : l.length ≤ c) (hm : c ≤ maxLen) (hl : ∀ (i : Nat) (x : UInt8), l[i]? = some x → cs[i]? = some (Value.int .u8 x.toNat)) : Bytes w (.slice (some ⟨b, 0, none⟩) n c) l := by
  subst hn
  refine ⟨_, c, by rw [byteCells_len], by rw [byteCells_len]; exact hc, hm, fun _ => ⟨b, 0, rfl, fun i u hu => ?_⟩⟩
  rw [byteCells_get] at hu
  cases hli : l[i]? with
  | none => rw [hli] at hu; cases hu
  | some x =>
    rw [hli] at hu
    simp only [Option.map_some, Option.some.injEq] at hu
    subst hu
    rw [Nat.zero_add, h.cell i]
    exact hl i x hli
theorem low_take {l : List UInt8} {j : Nat} {x : UInt8} (h : l[j]? = some x) : (lowerS (l.take j) ++ l.drop j).set j (lowB x) = lowerS (l.take (j + 1)) ++ l.drop (j + 1) := by
  obtain ⟨hl, rfl⟩ := List.getElem?_eq_some_iff.1 h
  have e1 : (lowerS (l.take j)).length = j := by rw [lower_len, List.length_take]; omega
  rw [List.set_append_right _ _ (by omega), e1, Nat.sub_self, List.drop_eq_getElem_cons hl, List.set_cons_zero, List.take_add_one, List.getElem?_eq_getElem hl]
  unfold lowerS
  rw [List.map_append, List.append_assoc]
  rfl
theorem low_at {l : List UInt8} {j : Nat} {x : UInt8} (h : l[j]? = some x) : (lowerS (l.take j) ++ l.drop j)[j]? = some x := by
  obtain ⟨hl, rfl⟩ := List.getElem?_eq_some_iff.1 h
  have e1 : (lowerS (l.take j)).length = j := by rw [lower_len, List.length_take]; omega
  rw [List.getElem?_append_right (by omega), e1, Nat.sub_self, List.drop_eq_getElem_cons hl]
  rfl
theorem lowMix_len (l : List UInt8) (j : Nat) : (lowerS (l.take j) ++ l.drop j).length = l.length := by
  rw [List.length_append, lower_len, List.length_take, List.length_drop]
  omega
end Go.Q
namespace Go.Proofs.YthamenngccaijaaGreatDoor
open Go Go.RowKit Go.Q
set_option linter.unusedSimpArgs false
theorem blf_of_str (w : World) (l : List UInt8) (hl : l.length ≤ 1099511627776) : ∃ c w' cs, (Go.convert 9 23 (str l)).run Tryz.prog w = .ok (.slice (some ⟨w.heap.size, 0, none⟩) l.length c) w' ∧ Blf w' w.heap.size 5 cs ∧ (∀ (i : Nat) (x : UInt8), l[i]? = some x → cs[i]? = some (Value.int .u8 x.toNat)) ∧ l.length ≤ c ∧ c ≤ maxLen ∧ Fr (fun _ => False) w w' ∧ w'.heap.size = w.heap.size + 1 := by
  have hr := Lib.run_convert_string_bytes (P := Tryz.prog) w 9 23 5 ⟨l.toArray⟩ Tryz.underlying9 Tryz.underlying23 Tryz.underlying5
  have hs : (ByteArray.mk l.toArray).size = l.length := by simp [ByteArray.size]
  rw [hs] at hr
  have hb : Blf (Lib.bytesWorld w 5 ⟨l.toArray⟩) w.heap.size 5 (Lib.bytesCells w 5 ⟨l.toArray⟩) := Lib.bytesWorld_at_new _ _ _
  refine ⟨_, _, _, hr, hb, fun i x hx => ?_, grownCap_ge _ _ _ _, grownCap_le_maxLen _ _ _ _ (by unfold maxLen; omega), ⟨rfl, rfl, rfl, by rw [Lib.bytesWorld_size]; omega, fun k hk _ => Lib.bytesWorld_at_old _ _ _ _ hk⟩, Lib.bytesWorld_size _ _ _⟩
  have hi := (List.getElem?_eq_some_iff.1 hx).1
  rw [← hb.cell i, Lib.bytesWorld_cell _ _ _ _ (by rw [hs]; exact hi)]
  simp [List.getD_eq_getElem?_getD, hx]
set_option maxRecDepth 20000 in
set_option maxHeartbeats 2000000 in
theorem lower_any (l : List UInt8) (w : World) (hl : l.length ≤ 1099511627776) :
    Calls Tryz.prog 176 #[str l] w fun e w' => e = .returned (str (lowerS l)) ∧ Fr (fun _ => False) w w' := by
  obtain ⟨c, w1, cs0, hrun, hB, hcs, hlc, hcm, F1, hs1⟩ := blf_of_str w l hl
  obtain ⟨z, hz⟩ : ∃ z, z = w.heap.size := ⟨_, rfl⟩
  rw [← hz] at hrun hB
  have HZ := Lib.hid hz
  have HB := Lib.hid hB
  have HF1 := Lib.hid F1
  have HCS := Lib.hid hcs
  have HLC := Lib.hid hlc
  have HCMX := Lib.hid hcm
  clear hB F1 hcs hz hs1 hlc hcm
  go_enter Tryz.func176, Tryz.ntmps176
  go_wp2_with fail
  go_loopg [10] l.length (fun g i wr => ∃ (j : Nat) (cs : Array Value), g = l.length - j ∧ j ≤ l.length ∧ i = .int .i64 j ∧ Blf wr z 5 cs ∧ (∀ (i : Nat) (x : UInt8), (lowerS (l.take j) ++ l.drop j)[i]? = some x → cs[i]? = some (Value.int .u8 x.toNat)) ∧ Fr (fun _ => False) w wr)
  case atStart => exact ⟨0, cs0, rfl, Nat.zero_le _, rfl, HB.out, by simpa [lowerS] using HCS.out, HF1.out⟩
  case round =>
    obtain ⟨j, cs, hg, hj, rfl, hBr, hcr, F⟩ := hrel
    have HG := Lib.hid hg
    have HBR := Lib.hid hBr
    have HCR := Lib.hid hcr
    have HF := Lib.hid F
    clear hg hBr hcr F hrun HB HCS
    by_cases hjl : j < l.length
    · obtain ⟨x, hx⟩ : ∃ x, l[j]? = some x := ⟨_, List.getElem?_eq_getElem hjl⟩
      have ec := HCR.out j x (low_at hx)
      have hjc := (Array.getElem?_eq_some_iff.1 ec).1
      have e1 : wr.cell? ⟨z, j, none⟩ = some (.int .u8 x.toNat) := (Blf.cell HBR.out j).trans ec
      have f1 := Blf.frozen HBR.out hjc
      have HX := Lib.hid hx
      have r1 : (0 : Int) ≤ (j : Int) := by omega
      have r2 : (j : Int) < (l.length : Int) := by omega
      have hsm : IntKind.u8.wrap (smallS (x.toNat : Int)) = ((lowB x).toNat : Int) := by
        rw [lowB_toNat]
        have := x.toNat_lt
        unfold smallS
        split
        · rw [if_pos (by omega)]
          simp [IntKind.wrap, IntKind.signed, IntKind.bits]
          omega
        · rw [if_neg (by omega)]
          simp [IntKind.wrap, IntKind.signed, IntKind.bits]
          omega
      have HSM := Lib.hid (small_any (x.toNat : Int) wr)
      generalize smallS (x.toNat : Int) = sm at *
      have HBN := Lib.hid (Blf.set HBR.out j (.int .u8 (lowB x).toNat))
      have HFN := Lib.hid (HF.out.trans' (Fr.setCell (S := fun k => k = z) (p := ⟨z, j, none⟩) (Fr.refl wr) (fun _ => rfl) (.int .u8 (lowB x).toNat)) (fun i hi e => by have := HZ.out; omega))
      have HCN := Lib.hid (show ∀ (i : Nat) (y : UInt8), (lowerS (l.take (j + 1)) ++ l.drop (j + 1))[i]? = some y → (cs.setIfInBounds j (Value.int .u8 (lowB x).toNat))[i]? = some (Value.int .u8 y.toNat) from fun i y hy => by
        rw [← low_take HX.out] at hy
        by_cases hij : i = j
        · subst hij
          rw [List.getElem?_set_self (by rw [lowMix_len]; exact hjl)] at hy
          simp only [Option.some.injEq] at hy
          subst hy
          rw [Array.getElem?_setIfInBounds_self_of_lt hjc]
        · rw [List.getElem?_set_ne (fun e => hij e.symm)] at hy
          rw [Array.getElem?_setIfInBounds_ne (fun e => hij e.symm)]
          exact HCR.out i y hy)
      have hx256 : x.toNat < 256 := x.toNat_lt
      clear hx ec hjc
      generalize (lowB x).toNat = m at *
      generalize x.toNat = n at *
      have HWR := Lib.hid hsm
      clear hsm
      go_wp2_with fail
      refine HSM.out.mono ?_
      rintro e w2 ⟨rfl, rfl⟩
      have hsm := HWR.out
      go_wp2_with fail
      go_roundg (l.length - (j + 1))
      case measure => rw [HG.out]; omega
      case rel => exact ⟨j + 1, _, rfl, by omega, by go_num, HBN.out, HCN.out, HFN.out⟩
    · obtain rfl : j = l.length := by omega
      have hcr := HCR.out
      rw [List.drop_length, List.append_nil, List.take_length] at hcr
      have HS := Lib.hid (str_of (Blf.bytes HBR.out (l := lowerS l) (n := l.length) (c := c) (lower_len l).symm (by rw [lower_len]; exact HLC.out) HCMX.out hcr))
      have hsr := HS.out
      clear hcr
      go_wp2_with fail
      go_ret
      exact ⟨rfl, HF.out⟩
set_option maxRecDepth 20000 in
set_option maxHeartbeats 4000000 in
theorem label_any (l : List UInt8) (w : World) (hl : l.length ≤ 1099511627776) :
    Calls Tryz.prog 175 #[str l] w fun e w' => e = .returned (.bool (labelB l)) ∧ Fr (fun _ => False) w w' := by
  have hs : (ByteArray.mk l.toArray).size = l.length := str_size l
  have hb : labelB l = (decide (1 ≤ l.length ∧ l.length ≤ 63) && (lowerS l).all labelC) := rfl
  have HB := Lib.hid hb
  clear hb
  rcases Nat.lt_or_ge l.length 1 with h1 | h1
  · have q1 : decide ((l.length : Int) < 1) = true := decide_eq_true (by omega)
    have q2 : (l.length : Int) < 1 := by omega
    go_enter Tryz.func175, Tryz.ntmps175
    go_wp2_with fail
    go_ret
    exact ⟨by rw [HB.out, decide_eq_false (by omega), Bool.false_and]; rfl, Fr.refl _⟩
  have q1 : decide ((l.length : Int) < 1) = false := decide_eq_false (by omega)
  have q2 : ¬ (l.length : Int) < 1 := by omega
  rcases Nat.lt_or_ge 63 l.length with h2 | h2
  · have q3 : decide ((63 : Int) < (l.length : Int)) = true := decide_eq_true (by omega)
    have q4 : (63 : Int) < (l.length : Int) := by omega
    go_enter Tryz.func175, Tryz.ntmps175
    go_wp2_with fail
    go_ret
    exact ⟨by rw [HB.out, decide_eq_false (by omega), Bool.false_and]; rfl, Fr.refl _⟩
  have q3 : decide ((63 : Int) < (l.length : Int)) = false := decide_eq_false (by omega)
  have q4 : ¬ (63 : Int) < (l.length : Int) := by omega
  have HL := Lib.hid (lower_any l w hl)
  rw [decide_eq_true (show 1 ≤ l.length ∧ l.length ≤ 63 from ⟨h1, h2⟩), Bool.true_and] at HB
  have hll := lower_len l
  obtain ⟨m, hm⟩ : ∃ m, m = lowerS l := ⟨_, rfl⟩
  rw [← hm] at HL HB hll
  clear hm
  go_enter Tryz.func175, Tryz.ntmps175
  go_wp2_with fail
  refine HL.out.mono ?_
  rintro e w1 ⟨rfl, F1⟩
  obtain ⟨cp, w2, hcv, hbv, FC, -⟩ := bytes_of_str w1 m (by omega)
  have HV := Lib.hid hbv
  have HF := Lib.hid (F1.trans FC)
  clear F1 FC hbv HL
  obtain ⟨p, hp⟩ : ∃ p : Option Addr, p = some ⟨w1.heap.size, 0, none⟩ := ⟨_, rfl⟩
  rw [← hp] at hcv HV
  clear hp
  go_wp2_with fail
  go_loopg [17] m.length (fun g i wr => ∃ j : Nat, g = m.length - j ∧ j ≤ m.length ∧ i = .int .i64 j ∧ (∀ c ∈ m.take j, labelC c = true) ∧ wr = w2)
  case atStart => exact ⟨0, rfl, Nat.zero_le _, rfl, by simp, rfl⟩
  case round =>
    obtain ⟨j, hg, hj, rfl, hall, rfl⟩ := hrel
    have HG := Lib.hid hg
    have HA := Lib.hid hall
    clear hg hall hcv
    by_cases hjl : j < m.length
    · obtain ⟨a0, c0, he, -, -, hx⟩ := HV.out.form
      simp only [Value.slice.injEq, true_and] at he
      obtain ⟨rfl, rfl⟩ := he
      obtain ⟨k, o, rfl, hy⟩ := hx (by omega)
      obtain ⟨c, hc1⟩ : ∃ c, m[j]? = some c := ⟨_, List.getElem?_eq_getElem hjl⟩
      have e1 := hy j c hc1
      have HC := Lib.hid hc1
      have r1 : (0 : Int) ≤ (j : Int) := by omega
      have r2 : (j : Int) < (m.length : Int) := by omega
      clear hx hy hc1
      have hcl : labelC c = decide ((97 ≤ c.toNat ∧ c.toNat ≤ 122) ∨ (48 ≤ c.toNat ∧ c.toNat ≤ 57) ∨ c.toNat = 45 ∨ c.toNat = 95) := rfl
      have HCL := Lib.hid hcl
      have HCM := Lib.hid (List.mem_of_getElem? HC.out)
      clear hcl
      generalize c.toNat = n at *
      have hcase : (97 ≤ n ∧ n ≤ 122) ∨ 122 < n ∨ (48 ≤ n ∧ n ≤ 57) ∨ n < 48 ∨ (57 < n ∧ n < 97) := by omega
      have fin : ∀ (hd : ¬ labelC c = true), m.all labelC = false := fun hd => List.all_eq_false.2 ⟨c, HCM.out, hd⟩
      have FIN := Lib.hid fin
      have nxt : ∀ (hd : labelC c = true), ∀ x ∈ m.take (j + 1), labelC x = true := fun hd x hx => by
        rw [List.take_add_one, HC.out] at hx
        rcases List.mem_append.1 hx with h | h
        · exact HA.out x h
        · simp at h
          rw [h]
          exact hd
      have NXT := Lib.hid nxt
      clear fin nxt
      rcases hcase with h | h | h | h | h
      · have d1 : (97 : Int) ≤ (n : Int) := by omega
        have d2 : (n : Int) ≤ 122 := by omega
        have HN := Lib.hid (NXT.out (by rw [HCL.out, decide_eq_true (by omega)]))
        go_wp2_with fail
        go_roundg (m.length - (j + 1))
        case measure => rw [HG.out]; omega
        case rel => exact ⟨j + 1, rfl, by omega, by go_num, HN.out, rfl⟩
      · have d1 : (97 : Int) ≤ (n : Int) := by omega
        have d2 : ¬ (n : Int) ≤ 122 := by omega
        have d3 : (48 : Int) ≤ (n : Int) := by omega
        have d4 : ¬ (n : Int) ≤ 57 := by omega
        have d5 : ((n : Int) == 45) = false := beq_eq_false_iff_ne.2 (by omega)
        have d6 : ((n : Int) == 95) = false := beq_eq_false_iff_ne.2 (by omega)
        have HN := Lib.hid (FIN.out (by rw [HCL.out, decide_eq_false (by omega)]; exact Bool.false_ne_true))
        go_wp2_with fail
        go_ret
        exact ⟨by rw [HB.out, HN.out]; rfl, HF.out⟩
      · have d1 : ¬ (97 : Int) ≤ (n : Int) := by omega
        have d3 : (48 : Int) ≤ (n : Int) := by omega
        have d4 : (n : Int) ≤ 57 := by omega
        have HN := Lib.hid (NXT.out (by rw [HCL.out, decide_eq_true (by omega)]))
        go_wp2_with fail
        go_roundg (m.length - (j + 1))
        case measure => rw [HG.out]; omega
        case rel => exact ⟨j + 1, rfl, by omega, by go_num, HN.out, rfl⟩
      · have d1 : ¬ (97 : Int) ≤ (n : Int) := by omega
        have d3 : ¬ (48 : Int) ≤ (n : Int) := by omega
        have d6 : ((n : Int) == 95) = false := beq_eq_false_iff_ne.2 (by omega)
        by_cases h45 : n = 45
        · have d5 : ((n : Int) == 45) = true := by rw [h45]; rfl
          have HN := Lib.hid (NXT.out (by rw [HCL.out, decide_eq_true (by omega)]))
          clear h45
          go_wp2_with fail
          go_roundg (m.length - (j + 1))
          case measure => rw [HG.out]; omega
          case rel => exact ⟨j + 1, rfl, by omega, by go_num, HN.out, rfl⟩
        · have d5 : ((n : Int) == 45) = false := beq_eq_false_iff_ne.2 (by omega)
          have HN := Lib.hid (FIN.out (by rw [HCL.out, decide_eq_false (by omega)]; exact Bool.false_ne_true))
          go_wp2_with fail
          go_ret
          exact ⟨by rw [HB.out, HN.out]; rfl, HF.out⟩
      · have d1 : ¬ (97 : Int) ≤ (n : Int) := by omega
        have d3 : (48 : Int) ≤ (n : Int) := by omega
        have d4 : ¬ (n : Int) ≤ 57 := by omega
        have d5 : ((n : Int) == 45) = false := beq_eq_false_iff_ne.2 (by omega)
        by_cases h95 : n = 95
        · have d6 : ((n : Int) == 95) = true := by rw [h95]; rfl
          have HN := Lib.hid (NXT.out (by rw [HCL.out, decide_eq_true (by omega)]))
          clear h95
          go_wp2_with fail
          go_roundg (m.length - (j + 1))
          case measure => rw [HG.out]; omega
          case rel => exact ⟨j + 1, rfl, by omega, by go_num, HN.out, rfl⟩
        · have d6 : ((n : Int) == 95) = false := beq_eq_false_iff_ne.2 (by omega)
          have HN := Lib.hid (FIN.out (by rw [HCL.out, decide_eq_false (by omega)]; exact Bool.false_ne_true))
          go_wp2_with fail
          go_ret
          exact ⟨by rw [HB.out, HN.out]; rfl, HF.out⟩
    · have hall := HA.out
      rw [List.take_of_length_le (by omega)] at hall
      have HN := Lib.hid (show m.all labelC = true from List.all_eq_true.2 hall)
      clear hall
      go_wp2_with fail
      go_ret
      exact ⟨by rw [HB.out, HN.out]; rfl, HF.out⟩
theorem trimDot_list (l : List UInt8) : Lib.trimSuffix l [46] = dotS l := by
  unfold Lib.trimSuffix dotS Lib.hasSuffix
  have h : ([46] : List UInt8).isSuffixOf l = true ↔ l.getLast? = some 46 := by
    rw [List.isSuffixOf_iff_suffix]
    constructor
    · rintro ⟨t, rfl⟩
      simp
    · intro h
      obtain ⟨t, rfl⟩ := List.getLast?_eq_some_iff.1 h
      exact ⟨t, rfl⟩
  by_cases hd : l.getLast? = some 46
  · rw [if_pos (h.2 hd), if_pos hd, List.dropLast_eq_take]
    rfl
  · rw [if_neg (fun e => hd (h.1 e)), if_neg hd]
theorem trimDot_any (l : List UInt8) (w : World) (hl : l.length ≤ 1099511627776) :
    Calls Tryz.prog 173 #[str l, str [46]] w fun e w' => e = .returned (str (dotS l)) ∧ w' = w := by
  refine (Go.Proofs.Tryz.strings_TrimSuffix ⟨l.toArray⟩ ⟨[46].toArray⟩ w (by rw [str_size]; omega)).mono ?_
  rintro e w' ⟨rfl, rfl⟩
  refine ⟨?_, rfl⟩
  rw [← trimDot_list]
def hostV (r : Option (List UInt8)) : Value := match r with | some h => .tuple #[str h, .int .i64 0] | none => .tuple #[str [], .int .i64 6]
set_option maxRecDepth 20000 in
set_option maxHeartbeats 2000000 in
theorem host_any (l : List UInt8) (w : World) (hl : l.length ≤ 1000000000) (hE : Env w) :
    Calls Tryz.prog 136 #[str l] w fun e w' => e = .returned (hostV (hostS l)) ∧ Fr (fun _ => False) w w' := by
  have hdl := dot_len l
  have hh : hostS l = if 253 < (dotS l).length then none else if (cutAt 46 (dotS l)).all labelB then some (lowerS (dotS l)) else none := rfl
  have HH := Lib.hid hh
  have HT := Lib.hid (trimDot_any l w (by omega))
  have hE0 := Lib.hid hE
  clear hh hE
  generalize dotS l = d at *
  have hs : (ByteArray.mk d.toArray).size = d.length := str_size d
  rcases Nat.lt_or_ge 253 d.length with h1 | h1
  · have q1 : (253 : Int) < (d.length : Int) := by omega
    rw [if_pos h1] at HH
    go_enter Tryz.func136, Tryz.ntmps136
    go_wp2_with fail
    refine HT.out.mono ?_
    rintro e w1 ⟨rfl, rfl⟩
    go_wp2_with fail
    refine bodyPost_ret (v := .tuple #[str [], .int .i64 6]) (by simp [results, Tryz.results136, go_sem]) rfl ⟨?_, Fr.refl _⟩
    rw [HH.out]
    rfl
  have q1 : ¬ (253 : Int) < (d.length : Int) := by omega
  rw [if_neg (by omega)] at HH
  have HSP := Lib.hid (strSplit_any d 46 w hE0.out (by omega))
  have hks : ∀ k ∈ cutAt 46 d, k.length ≤ d.length := by
    intro k hk
    have : ∀ (l : List UInt8), ∀ k ∈ cutAt 46 l, k.length ≤ l.length := by
      intro l
      induction l with
      | nil => intro k hk; simp [cutAt] at hk; simp [hk]
      | cons x t ih =>
        intro k hk
        unfold cutAt at hk
        split at hk
        · rcases List.mem_cons.1 hk with rfl | hk
          · simp
          · have := ih k hk
            simp only [List.length_cons]
            omega
        · split at hk
          · simp at hk; simp [hk]
          · rename_i h r hc
            rcases List.mem_cons.1 hk with rfl | hk
            · have := ih h (by rw [hc]; simp)
              simp only [List.length_cons]
              omega
            · have := ih k (by rw [hc]; simp [hk])
              simp only [List.length_cons]
              omega
    exact this d k hk
  have HKS := Lib.hid hks
  have hcl := (cutAt_len 46 d).1
  clear hks
  generalize cutAt 46 d = ks at *
  go_enter Tryz.func136, Tryz.ntmps136
  go_wp2_with fail
  refine HT.out.mono ?_
  rintro e w1 ⟨rfl, rfl⟩
  go_wp2_with fail
  refine HSP.out.mono ?_
  rintro e w2 ⟨rfl, hst, F2⟩
  have HST := Lib.hid hst
  have HF2 := Lib.hid F2
  obtain ⟨p, hp⟩ : ∃ p : Option Addr, p = some ⟨w1.heap.size, 0, none⟩ := ⟨_, rfl⟩
  rw [← hp] at HST ⊢
  clear hst F2 hp HSP
  go_wp2_with fail
  go_loopg [14] ks.length (fun g i wr => ∃ j : Nat, g = ks.length - j ∧ j ≤ ks.length ∧ i = .int .i64 j ∧ (∀ c ∈ ks.take j, labelB c = true) ∧ Fr (fun _ => False) w2 wr)
  case atStart => exact ⟨0, rfl, Nat.zero_le _, rfl, by simp, Fr.refl _⟩
  case round =>
    obtain ⟨j, hg, hj, rfl, hall, F⟩ := hrel
    have HG := Lib.hid hg
    have HA := Lib.hid hall
    have HF := Lib.hid F
    clear hg hall
    by_cases hjl : j < ks.length
    · obtain ⟨a0, c0, he, -, -, hx⟩ := Strs.form (HST.out.old F)
      simp only [Value.slice.injEq, true_and] at he
      obtain ⟨rfl, rfl⟩ := he
      obtain ⟨b, o, rfl, hy⟩ := hx (by omega)
      obtain ⟨k, hk⟩ : ∃ k, ks[j]? = some k := ⟨_, List.getElem?_eq_getElem hjl⟩
      have e1 := hy j k hk
      have HK := Lib.hid hk
      have hkl := HKS.out k (List.mem_of_getElem? hk)
      have r1 : (0 : Int) ≤ (j : Int) := by omega
      have r2 : (j : Int) < (ks.length : Int) := by omega
      have HLB := Lib.hid (label_any k wr (by omega))
      obtain ⟨bl, hbl⟩ : ∃ bl, bl = labelB k := ⟨_, rfl⟩
      rw [← hbl] at HLB
      have HBL := Lib.hid hbl
      clear hx hy hk F hbl
      go_wp2_with fail
      refine HLB.out.mono ?_
      rintro e w3 ⟨rfl, F3⟩
      have HF3 := Lib.hid (HF.out.trans F3)
      clear F3 HF HLB e1
      cases bl with
      | false =>
        have hf : ks.all labelB = false := List.all_eq_false.2 ⟨k, List.mem_of_getElem? HK.out, by rw [← HBL.out]; exact Bool.false_ne_true⟩
        rw [hf] at HH
        clear hf
        go_wp2_with fail
        refine bodyPost_ret (v := .tuple #[str [], .int .i64 6]) (by simp [results, Tryz.results136, go_sem]) rfl ⟨?_, HF2.out.trans HF3.out⟩
        rw [HH.out]
        rfl
      | true =>
        have HN := Lib.hid (show ∀ x ∈ ks.take (j + 1), labelB x = true from fun x hx => by
          rw [List.take_add_one, HK.out] at hx
          rcases List.mem_append.1 hx with h | h
          · exact HA.out x h
          · simp at h
            rw [h]
            exact HBL.out.symm)
        go_wp2_with fail
        go_roundg (ks.length - (j + 1))
        case measure => rw [HG.out]; omega
        case rel => exact ⟨j + 1, rfl, by omega, by go_num, HN.out, HF3.out⟩
    · have hall := HA.out
      rw [List.take_of_length_le (by omega)] at hall
      rw [if_pos (List.all_eq_true.2 hall)] at HH
      have HLW := Lib.hid (lower_any d wr (by omega))
      clear hall F
      go_wp2_with fail
      refine HLW.out.mono ?_
      rintro e w3 ⟨rfl, F3⟩
      have HF3 := Lib.hid ((HF2.out.trans HF.out).trans F3)
      clear F3
      go_wp2_with fail
      refine bodyPost_ret (v := .tuple #[str (lowerS d), .int .i64 0]) (by simp [results, Tryz.results136, go_sem]) rfl ⟨?_, HF3.out⟩
      rw [HH.out]
      rfl
theorem host_some {l h : List UInt8} (hh : hostS l = some h) (w : World) (hl : l.length ≤ 1000000000) (hE : Env w) :
    Calls Tryz.prog 136 #[str l] w fun e w' => e = .returned (.tuple #[str h, .int .i64 0]) ∧ Fr (fun _ => False) w w' :=
  (host_any l w hl hE).mono (by rintro e w' ⟨rfl, F⟩; rw [hh]; exact ⟨rfl, F⟩)
theorem host_none {l : List UInt8} (hh : hostS l = none) (w : World) (hl : l.length ≤ 1000000000) (hE : Env w) :
    Calls Tryz.prog 136 #[str l] w fun e w' => e = .returned (.tuple #[str [], .int .i64 6]) ∧ Fr (fun _ => False) w w' :=
  (host_any l w hl hE).mono (by rintro e w' ⟨rfl, F⟩; rw [hh]; exact ⟨rfl, F⟩)
theorem lastIdx_list (c : UInt8) (l : List UInt8) : ∀ k, k ≤ l.length → Lib.lastIdx ⟨l.toArray⟩ (c.toNat : Int) k = lastTo c l k
  | 0, _ => rfl
  | k + 1, h => by
    unfold Lib.lastIdx lastTo
    rw [lastIdx_list c l k (by omega)]
    have hk : l[k]? = some l[k] := List.getElem?_eq_getElem (by omega)
    have e : (ByteArray.mk l.toArray).data[k]! = l[k] := by
      show l.toArray[k]! = l[k]
      rw [getElem!_pos l.toArray k (by simp; omega)]
      simp
    rw [e, hk]
    by_cases hc : l[k] = c
    · rw [if_pos (by rw [hc]), if_pos (by rw [hc])]
    · rw [if_neg (fun h => hc (UInt8.toNat_inj.1 (by omega))), if_neg (fun h => hc (by simpa using h))]
theorem lastByte_any (l : List UInt8) (c : UInt8) (w : World) (hl : l.length ≤ 1099511627776) :
    Calls Tryz.prog 178 #[str l, .int .u8 c.toNat] w fun e w' => e = .returned (.int .i64 (lastS c l)) ∧ w' = w := by
  refine (Go.Proofs.Tryz.strings_LastIndexByte ⟨l.toArray⟩ (c.toNat : Int) (by rw [str_size]; omega) w).mono ?_
  rintro e w' ⟨rfl, rfl⟩
  refine ⟨?_, rfl⟩
  unfold Lib.lastIndexByte
  rw [str_size, lastIdx_list c l _ (Nat.le_refl _)]
  rfl
set_option maxRecDepth 20000 in
set_option maxHeartbeats 1000000 in
theorem mail_any (l : List UInt8) (w : World) (hl : l.length ≤ 1000000000) :
    Calls Tryz.prog 138 #[str l] w fun e w' => e = .returned (str (mailS l)) ∧ Fr (fun _ => False) w w' := by
  have HI := Lib.hid (lastByte_any l 64 w (by omega))
  have hm : mailS l = if lastS 64 l < 0 then l else l.take (lastS 64 l).toNat ++ lowerS (l.drop (lastS 64 l).toNat) := rfl
  obtain ⟨h1, -, h3⟩ := lastTo_lt 64 l l.length
  rw [show lastTo 64 l l.length = lastS 64 l from rfl] at h1 h3
  have HM := Lib.hid hm
  clear hm
  generalize lastS 64 l = x at *
  by_cases hx : x < 0
  · rw [if_pos hx] at HM
    go_enter Tryz.func138, Tryz.ntmps138
    go_wp2_with fail
    refine HI.out.mono ?_
    rintro e w1 ⟨rfl, rfl⟩
    go_wp2_with fail
    go_ret
    exact ⟨by rw [HM.out]; rfl, Fr.refl _⟩
  · obtain ⟨n, rfl⟩ : ∃ n : Nat, x = n := ⟨x.toNat, by omega⟩
    rw [if_neg hx, Int.toNat_natCast] at HM
    have hn : n ≤ l.length := by omega
    have s1 := fun w => str_to l n hn w
    have s2 := fun w => str_from l n hn w
    have HL := Lib.hid (fun w => lower_any (l.drop n) w (by rw [List.length_drop]; omega))
    have z1 : (ByteArray.mk (l.take n).toArray).size = (l.take n).length := str_size _
    have z2 : (ByteArray.mk (lowerS (l.drop n)).toArray).size = (lowerS (l.drop n)).length := str_size _
    have z3 : (lowerS (l.drop n)).length ≤ 1000000000 := by rw [lower_len, List.length_drop]; omega
    have z4 : (l.take n).length ≤ 1000000000 := by rw [List.length_take]; omega
    have z5 : ¬ 9223372036854775807 < (l.take n).length + (lowerS (l.drop n)).length := by omega
    generalize lowerS (l.drop n) = lo at *
    generalize l.take n = fr at *
    generalize l.drop n = dr at *
    go_enter Tryz.func138, Tryz.ntmps138
    go_wp2_with fail
    refine HI.out.mono ?_
    rintro e w1 ⟨rfl, rfl⟩
    go_upto_region 4 with fail
    go_region_held3 (fun w' => True) (trivial) (first
      | (go_at_call 176; refine (HL.out _).mono ?_; rintro e w2 ⟨rfl, F2⟩))
    all_goals
      have HF2 := Lib.hid ((Fr.refl (S := fun _ => False) w1).drew.trans F2)
      go_wp2_with fail
      go_ret
      exact ⟨by rw [HM.out]; exact congrArg (fun x : ByteArray => Ending.returned (Value.string x)) (ba_cat fr lo), HF2.out⟩
end Go.Proofs.YthamenngccaijaaGreatDoor

namespace Go.Q
open Go Go.RowKit
theorem host_len {l h : List UInt8} (hh : hostS l = some h) : h.length ≤ l.length := by
  unfold hostS at hh
  split at hh
  · cases hh
  split at hh
  · simp only [Option.some.injEq] at hh
    subst hh
    rw [lower_len]
    exact dot_len l
  · cases hh
theorem mail_len (l : List UInt8) : (mailS l).length ≤ l.length := by
  unfold mailS
  split
  · omega
  · rw [List.length_append, lower_len, List.length_take, List.length_drop]
    omega
theorem genMean_len {g : Gen} (hf : fewG g) (hok : g.k = 4 → nameOk g.n = true) : (meanS g).length ≤ 1000000000000 := by
  obtain ⟨f1, f2⟩ := hf
  unfold meanS
  split
  · rename_i h4
    obtain ⟨h1, h2⟩ := name_rdns (hok h4)
    have hkl : ∀ k ∈ g.n.map rdnKeyS, k.length ≤ 2560017616 := fun k hk => by
      obtain ⟨r, hr, rfl⟩ := List.mem_map.1 hk
      exact rdnKey_len (f2 r hr) (h2 r hr)
    have h3 := join_len 47 2560017616 _ hkl
    rw [List.length_map] at h3
    have h4 : nameKeyS g.n = Lib.join (g.n.map rdnKeyS) [47] := rfl
    rw [h4]
    have := Nat.mul_le_mul_right (2560017616 + 1) h1
    omega
  split
  · split
    · rename_i h hh
      have := host_len hh
      omega
    · have := hexS_len g.b
      simp only [List.length_cons]
      omega
  split
  · have := mail_len g.b
    omega
  · have := hexS_len g.b
    omega
end Go.Q
namespace Go.Proofs.YthamenngccaijaaGreatDoor
open Go Go.RowKit Go.Q
set_option linter.unusedSimpArgs false
set_option maxRecDepth 20000 in
set_option maxHeartbeats 4000000 in
theorem meaning_any (u : Value) (g : Gen) (w : World) (h : GenAt w u g) (hf : fewG g) (hok : g.k = 4 → nameOk g.n = true) (hE : Env w) :
    Calls Tryz.prog 92 #[u] w fun e w' => e = .returned (str (meanS g)) ∧ Fr (fun _ => False) w w' := by
  obtain ⟨ab, cb, an, cn, rfl, hb, hn⟩ := h.form
  obtain ⟨k, b, n⟩ := g
  obtain ⟨f1, f2⟩ := hf
  simp only at hb hn f1 f2 hok ⊢
  have F0 : Fr (fun _ => False) w (w.alloc (.cells #[.int .i64 k, .slice ab b.length cb, .slice an n.length cn] 43)) := (Fr.refl w).alloc _
  have B := Blk.new w 43 #[.int .i64 k, .slice ab b.length cb, .slice an n.length cn]
  obtain ⟨z, hz⟩ : ∃ z, z = w.heap.size := ⟨_, rfl⟩
  rw [← hz] at B
  have HZ := Lib.hid hz
  have HB := Lib.hid (hb.old F0)
  have HN := Lib.hid (hn.old F0)
  have HE := Lib.hid (hE.old F0)
  have HF0 := Lib.hid F0
  have HF2 := Lib.hid f2
  have HOK := Lib.hid hok
  have hg : meanS ⟨k, b, n⟩ = if k = 4 then nameKeyS n else if k = 2 then (match hostS b with | some h => h | none => 35 :: hexS b) else if k = 1 then mailS b else hexS b := rfl
  have HG := Lib.hid hg
  clear h hb hn hz hE F0 f2 hg hok
  have hk : k = 4 ∨ k = 2 ∨ k = 1 ∨ ((k == 4) = false ∧ (k == 2) = false ∧ (k == 1) = false) := by
    simp only [beq_eq_false_iff_ne]
    omega
  rcases hk with rfl | rfl | rfl | ⟨k4, k2, k1⟩
  · rw [if_pos rfl] at HG
    go_enter Tryz.func92, Tryz.ntmps92
    go_upto_region 1 with fail
    rw [← HZ.out]
    generalize (w.alloc (.cells #[.int .i64 4, .slice ab b.length cb, .slice an n.length cn] 43)) = w0 at *
    have e0 := B.cell 0
    have e2 := B.cell 2
    simp only [List.getElem?_toArray, List.getElem?_cons_succ, List.getElem?_cons_zero] at e0 e2
    go_wp2_with fail
    refine (nameKey_any _ n w0 HN.out HF2.out (HOK.out (by first | rfl | trivial)) HE.out).mono ?_
    rintro e w1 ⟨rfl, F1⟩
    go_wp2_with fail
    go_ret
    exact ⟨by rw [HG.out]; rfl, HF0.out.trans F1⟩
  · rw [if_neg (by decide), if_pos rfl] at HG
    have HS := Lib.hid (str_of HB.out)
    cases hh : hostS b with
    | some ho =>
      have HH := Lib.hid (host_some hh _ (by omega) HE.out)
      rw [hh] at HG
      clear hh
      go_enter Tryz.func92, Tryz.ntmps92
      go_upto_region 1 with fail
      rw [← HZ.out]
      generalize (w.alloc (.cells #[.int .i64 2, .slice ab b.length cb, .slice an n.length cn] 43)) = w0 at *
      have e0 := B.cell 0
      have e1 := B.cell 1
      simp only [List.getElem?_toArray, List.getElem?_cons_succ, List.getElem?_cons_zero] at e0 e1
      have hsr := HS.out
      go_wp2_with fail
      refine HH.out.mono ?_
      rintro e w1 ⟨rfl, F1⟩
      go_wp2_with fail
      go_ret
      exact ⟨by rw [HG.out]; rfl, HF0.out.trans F1⟩
    | none =>
      have HH := Lib.hid (host_none hh _ (by omega) HE.out)
      rw [hh] at HG
      clear hh
      have hxl := hexS_len b
      have hxs : (ByteArray.mk (hexS b).toArray).size = (hexS b).length := str_size _
      have HX := Lib.hid (fun w1 (h : Bytes w1 (.slice ab b.length cb) b) => hex_any _ b w1 h (by omega))
      generalize hexS b = hb at *
      go_enter Tryz.func92, Tryz.ntmps92
      go_upto_region 1 with fail
      rw [← HZ.out]
      generalize (w.alloc (.cells #[.int .i64 2, .slice ab b.length cb, .slice an n.length cn] 43)) = w0 at *
      have HBL := Lib.hid B
      have e0 := B.cell 0
      have e1 := B.cell 1
      simp only [List.getElem?_toArray, List.getElem?_cons_succ, List.getElem?_cons_zero] at e0 e1
      have hsr := HS.out
      clear B
      go_wp2_with fail
      refine HH.out.mono ?_
      rintro e w1 ⟨rfl, F1⟩
      have HX1 := Lib.hid (HX.out w1 (HB.out.old F1))
      have HF1 := Lib.hid (HF0.out.trans F1)
      have B1 := HBL.out.fr F1 (fun h => h)
      clear F1 HH HS hsr e0 e1 HX HBL
      have e0 := B1.cell 0
      have e1 := B1.cell 1
      simp only [List.getElem?_toArray, List.getElem?_cons_succ, List.getElem?_cons_zero] at e0 e1
      go_wp2_with fail
      refine HX1.out.mono ?_
      rintro e w2 ⟨rfl, F2⟩
      go_wp2_with fail
      go_ret
      refine ⟨?_, HF1.out.trans F2⟩
      rw [HG.out]
      refine congrArg (fun x : ByteArray => Ending.returned (.string x)) ?_
      exact ba_cat [35] hb
  · rw [if_neg (by decide), if_neg (by decide), if_pos rfl] at HG
    have HS := Lib.hid (str_of HB.out)
    go_enter Tryz.func92, Tryz.ntmps92
    go_upto_region 1 with fail
    rw [← HZ.out]
    generalize (w.alloc (.cells #[.int .i64 1, .slice ab b.length cb, .slice an n.length cn] 43)) = w0 at *
    have e0 := B.cell 0
    have e1 := B.cell 1
    simp only [List.getElem?_toArray, List.getElem?_cons_succ, List.getElem?_cons_zero] at e0 e1
    have hsr := HS.out
    go_wp2_with fail
    refine (mail_any b w0 (by omega)).mono ?_
    rintro e w1 ⟨rfl, F1⟩
    go_wp2_with fail
    go_ret
    exact ⟨by rw [HG.out]; rfl, HF0.out.trans F1⟩
  · rw [if_neg (by simpa using k4), if_neg (by simpa using k2), if_neg (by simpa using k1)] at HG
    go_enter Tryz.func92, Tryz.ntmps92
    go_upto_region 1 with fail
    rw [← HZ.out]
    generalize (w.alloc (.cells #[.int .i64 k, .slice ab b.length cb, .slice an n.length cn] 43)) = w0 at *
    have e0 := B.cell 0
    have e1 := B.cell 1
    simp only [List.getElem?_toArray, List.getElem?_cons_succ, List.getElem?_cons_zero] at e0 e1
    go_wp2_with fail
    refine (hex_any _ b w0 HB.out (by omega)).mono ?_
    rintro e w1 ⟨rfl, F1⟩
    go_wp2_with fail
    go_ret
    exact ⟨by rw [HG.out]; rfl, HF0.out.trans F1⟩
def gkOut (g : Gen) : List UInt8 := if genOk g then genKeyS g else []
def gkErr (g : Gen) : Int := if genOk g then 0 else 1
set_option maxRecDepth 20000 in
set_option maxHeartbeats 4000000 in
theorem genKey_any (u : Value) (g : Gen) (w : World) (h : GenAt w u g) (hf : fewG g) (hE : Env w) :
    Calls Tryz.prog 42 #[u] w fun e w' => e = .returned (.tuple #[str (gkOut g), .int .i64 (gkErr g)]) ∧ Fr (fun _ => False) w w' := by
  obtain ⟨ab, cb, an, cn, rfl, hb, hn⟩ := h.form
  have F0 : Fr (fun _ => False) w (w.alloc (.cells #[.int .i64 g.k, .slice ab g.b.length cb, .slice an g.n.length cn] 43)) := (Fr.refl w).alloc _
  have B := Blk.new w 43 #[.int .i64 g.k, .slice ab g.b.length cb, .slice an g.n.length cn]
  obtain ⟨z, hz⟩ : ∃ z, z = w.heap.size := ⟨_, rfl⟩
  rw [← hz] at B
  have HZ := Lib.hid hz
  have HGA := Lib.hid (h.old F0)
  have HE := Lib.hid (hE.old F0)
  have HF0 := Lib.hid F0
  have HFW := Lib.hid hf
  have HR := Lib.hid (genRight_any _ g _ (h.old F0) hf)
  have HM := Lib.hid (fun (hok : g.k = 4 → nameOk g.n = true) w1 (F : Fr (fun _ => False) (w.alloc (.cells #[.int .i64 g.k, .slice ab g.b.length cb, .slice an g.n.length cn] 43)) w1) => meaning_any _ g w1 ((h.old F0).old F) hf hok ((hE.old F0).old F))
  have HP := Lib.hid (fun w1 (F : Fr (fun _ => False) (w.alloc (.cells #[.int .i64 g.k, .slice ab g.b.length cb, .slice an g.n.length cn] 43)) w1) => ((hE.old F0).old F).pows)
  have hk : genKeyS g = Lib.itoa g.k ++ meanS g := rfl
  have HK := Lib.hid hk
  have hgk : genOk g = true → 0 ≤ g.k ∧ g.k ≤ 8 := gen_kind
  have h4 : genOk g = true → g.k = 4 → nameOk g.n = true := fun h1 h2 => by
    unfold genOk at h1
    rw [if_pos h2, Bool.and_eq_true] at h1
    exact h1.2
  have H4 := Lib.hid h4
  have HKB := Lib.hid hgk
  clear h hb hn hz hE F0 hf hk h4 hgk
  have hcase : genOk g = false ∨ genOk g = true := by cases genOk g <;> simp
  rcases hcase with hok | hok
  · rw [hok] at HR
    have HO := Lib.hid (show gkOut g = [] by unfold gkOut; rw [hok]; rfl)
    have HX := Lib.hid (show gkErr g = 1 by unfold gkErr; rw [hok]; rfl)
    clear hok
    go_enter Tryz.func42, Tryz.ntmps42
    go_upto_region 1 with fail
    rw [← HZ.out]
    generalize (w.alloc (.cells #[.int .i64 g.k, .slice ab g.b.length cb, .slice an g.n.length cn] 43)) = w0 at *
    have e0 := B.cell 0
    have e1 := B.cell 1
    have e2 := B.cell 2
    simp only [List.getElem?_toArray, List.getElem?_cons_succ, List.getElem?_cons_zero] at e0 e1 e2
    go_wp2_with fail
    refine HR.out.mono ?_
    rintro e w1 ⟨rfl, F1⟩
    go_wp2_with fail
    refine bodyPost_ret (v := .tuple #[str [], .int .i64 1]) (by simp [results, Tryz.results42, go_sem]) rfl ⟨?_, HF0.out.trans F1⟩
    rw [HO.out, HX.out]
  · rw [hok] at HR
    have HO := Lib.hid (show gkOut g = genKeyS g by unfold gkOut; rw [hok]; rfl)
    have HX := Lib.hid (show gkErr g = 0 by unfold gkErr; rw [hok]; rfl)
    obtain ⟨k0, k8⟩ := HKB.out hok
    have HMM := Lib.hid (HM.out (H4.out hok))
    have hil : (Lib.itoa g.k).length ≤ 100 := by have := itoa_len k0 (by omega); omega
    have z1 : (ByteArray.mk (Lib.itoa g.k).toArray).size = (Lib.itoa g.k).length := str_size _
    have z2 : (ByteArray.mk (meanS g).toArray).size = (meanS g).length := str_size _
    have hml : (meanS g).length ≤ 1000000000000 := genMean_len HFW.out (H4.out hok)
    clear hok HM H4 HKB
    obtain ⟨it, hit⟩ : ∃ it, it = Lib.itoa g.k := ⟨_, rfl⟩
    obtain ⟨me, hme⟩ : ∃ me, me = meanS g := ⟨_, rfl⟩
    have HI := Lib.hid (fun w1 (hP : Pows w1) => itoa_any g.k (by omega) (by omega) w1 hP)
    rw [← hit] at HI hil HK z1
    rw [← hme] at HMM hml HK z2
    clear hit hme
    have z5 : ¬ 9223372036854775807 < it.length + me.length := by omega
    go_enter Tryz.func42, Tryz.ntmps42
    go_upto_region 1 with fail
    rw [← HZ.out]
    generalize (w.alloc (.cells #[.int .i64 g.k, .slice ab g.b.length cb, .slice an g.n.length cn] 43)) = w0 at *
    have HB := Lib.hid B
    have e0 := B.cell 0
    have e1 := B.cell 1
    have e2 := B.cell 2
    simp only [List.getElem?_toArray, List.getElem?_cons_succ, List.getElem?_cons_zero] at e0 e1 e2
    go_wp2_with fail
    refine HR.out.mono ?_
    rintro e w1 ⟨rfl, F1⟩
    have B1 := HB.out.fr F1 (fun h => h)
    have HB1 := Lib.hid B1
    have HFW1 := Lib.hid F1
    clear B e0 e1 e2 HR HB F1
    go_upto_region 3 with fail
    replace B1 := B1.drew
    have G1 : Fr (fun _ => False) w0 w1.drew := HFW1.out.drew
    go_region_held3 (fun w' => ∀ j, w'.cell? ⟨z, j, none⟩ = (#[.int .i64 g.k, .slice ab g.b.length cb, .slice an g.n.length cn] : Array Value)[j]?) (exact B1.cell) (first
      | (go_at_call 91; refine (HI.out _ (HP.out _ G1)).mono ?_; rintro e w' ⟨rfl, F⟩; replace B1 := B1.fr F (fun h => h); replace G1 := G1.trans F; clear F)
      | (go_at_call 92; refine (HMM.out _ G1).mono ?_; rintro e w' ⟨rfl, F⟩; replace B1 := B1.fr F (fun h => h); replace G1 := G1.trans F; clear F))
    all_goals
      have HG1 := Lib.hid (HF0.out.trans G1)
      go_wp2_with fail
      refine bodyPost_ret (v := .tuple #[str (it ++ me), .int .i64 0]) (by simp [results, Tryz.results42, go_sem, ba_cat]) rfl ⟨?_, HG1.out⟩
      rw [HO.out, HX.out, HK.out]
set_option maxRecDepth 20000 in
set_option maxHeartbeats 4000000 in
theorem genSame_any (u v : Value) (g p : Gen) (w : World) (h : GenAt w u g) (hp : GenAt w v p) (hf : fewG g) (hfp : fewG p) (hE : Env w) :
    Calls Tryz.prog 19 #[u, v] w fun e w' => e = .returned (.bool (genSameS g p)) ∧ Fr (fun _ => False) w w' := by
  obtain ⟨ab, cb, an, cn, rfl, -, -⟩ := h.form
  obtain ⟨ab2, cb2, an2, cn2, rfl, -, -⟩ := hp.form
  have HGA := Lib.hid h
  have HPA := Lib.hid hp
  have HE := Lib.hid hE
  have HW1 := Lib.hid hf
  have HW2 := Lib.hid hfp
  obtain ⟨z, hz⟩ : ∃ z, z = w.heap.size := ⟨_, rfl⟩
  have B := (Blk.new w 43 #[.int .i64 g.k, .slice ab g.b.length cb, .slice an g.n.length cn]).alloc (.cells #[.int .i64 p.k, .slice ab2 p.b.length cb2, .slice an2 p.n.length cn2] 43)
  have D := Blk.new (w.alloc (.cells #[.int .i64 g.k, .slice ab g.b.length cb, .slice an g.n.length cn] 43)) 43 #[.int .i64 p.k, .slice ab2 p.b.length cb2, .slice an2 p.n.length cn2]
  have F0 : Fr (fun _ => False) w ((w.alloc (.cells #[.int .i64 g.k, .slice ab g.b.length cb, .slice an g.n.length cn] 43)).alloc (.cells #[.int .i64 p.k, .slice ab2 p.b.length cb2, .slice an2 p.n.length cn2] 43)) := ((Fr.refl w).alloc _).alloc _
  rw [World.size_alloc, ← hz] at D
  rw [← hz] at B
  have HZ := Lib.hid hz
  have HF0 := Lib.hid F0
  have hs : genSameS g p = (genOk g && genOk p && decide (genKeyS g = genKeyS p)) := rfl
  have HS := Lib.hid hs
  clear h hp hE hf hfp hz F0 hs
  go_enter Tryz.func19, Tryz.ntmps19
  go_upto_region 1 with fail
  rw [← HZ.out]
  generalize ((w.alloc (.cells #[.int .i64 g.k, .slice ab g.b.length cb, .slice an g.n.length cn] 43)).alloc (.cells #[.int .i64 p.k, .slice ab2 p.b.length cb2, .slice an2 p.n.length cn2] 43)) = w0 at *
  have HD := Lib.hid D
  have e0 := B.cell 0
  have e1 := B.cell 1
  have e2 := B.cell 2
  simp only [List.getElem?_toArray, List.getElem?_cons_succ, List.getElem?_cons_zero] at e0 e1 e2
  have HK1 := Lib.hid (genKey_any _ g w0 (HGA.out.old HF0.out) HW1.out (HE.out.old HF0.out))
  clear D
  go_wp2_with fail
  refine HK1.out.mono ?_
  rintro e w1 ⟨rfl, F1⟩
  have D1 := HD.out.fr F1 (fun h => h)
  have HF1 := Lib.hid (HF0.out.trans F1)
  clear F1 B e0 e1 e2 HK1
  have e0 := D1.cell 0
  have e1 := D1.cell 1
  have e2 := D1.cell 2
  simp only [List.getElem?_toArray, List.getElem?_cons_succ, List.getElem?_cons_zero] at e0 e1 e2
  have HK2 := Lib.hid (genKey_any _ p w1 (HPA.out.old HF1.out) HW2.out (HE.out.old HF1.out))
  go_wp2_with fail
  refine HK2.out.mono ?_
  rintro e w2 ⟨rfl, F2⟩
  have HF2 := Lib.hid (HF1.out.trans F2)
  clear F2 D1 e0 e1 e2 HK2
  have hcase : ∀ q : Gen, (genOk q = false ∧ gkErr q = 1) ∨ (genOk q = true ∧ gkErr q = 0 ∧ gkOut q = genKeyS q) := fun q => by
    cases hq : genOk q with
    | false => exact .inl ⟨rfl, by unfold gkErr; rw [hq]; rfl⟩
    | true => exact .inr ⟨rfl, by unfold gkErr; rw [hq]; rfl, by unfold gkOut; rw [hq]; rfl⟩
  rcases hcase g with ⟨g1, g2⟩ | ⟨g1, g2, g3⟩
  · rw [g1] at HS
    rw [g2]
    go_wp2_with fail
    go_ret
    exact ⟨by rw [HS.out]; rfl, HF2.out⟩
  · rcases hcase p with ⟨p1, p2⟩ | ⟨p1, p2, p3⟩
    · rw [g1, p1] at HS
      rw [g2, p2]
      go_wp2_with fail
      go_ret
      exact ⟨by rw [HS.out]; rfl, HF2.out⟩
    · rw [g1, p1] at HS
      rw [g2, p2, g3, p3]
      have HS2 := Lib.hid (show genSameS g p = decide (genKeyS g = genKeyS p) from HS.out.trans (by simp))
      clear g2 g3 p2 p3 HS
      generalize genKeyS g = kg at *
      generalize genKeyS p = kp at *
      by_cases hkk : kg = kp
      · subst hkk
        have q1 : (kg == kg) = true := by simp
        rw [decide_eq_true rfl] at HS2
        go_wp2_with fail
        go_ret
        exact ⟨by rw [HS2.out]; rfl, HF2.out⟩
      · have q1 : (kg == kp) = false := by simpa using hkk
        rw [decide_eq_false hkk] at HS2
        go_wp2_with fail
        go_ret
        exact ⟨by rw [HS2.out]; rfl, HF2.out⟩
end Go.Proofs.YthamenngccaijaaGreatDoor

namespace Go.Q
open Go
abbrev Key1 := List UInt8
def behindB (last : Option Key1) (k : Key1) : Bool := match last with | none => true | some l => decide (l < k)
def betterB (best : Option Key1) (k : Key1) : Bool := match best with | none => true | some b => decide (k < b)
def pickStep (last best : Option Key1) (k : Key1) : Option Key1 := if (behindB last k && betterB best k) = true then some k else best
def pickS (last : Option Key1) (ks : List Key1) : Option Key1 := ks.foldl (pickStep last) none
def lastOf (D : List Key1) (j : Nat) : Option Key1 := if j = 0 then none else D[j - 1]?
def keysS (l : List Part) : List Key1 := Lib.compact (sortS (partKeys l))
end Go.Q

namespace Go.Q
open Go
end Go.Q

namespace Go.Proofs.YthamenngccaijaaGreatDoor
open Go Go.RowKit Go.Q
set_option linter.unusedSimpArgs false
theorem addStr {w wa : World} {base m : Nat} {v : Value} {xs : List (List UInt8)} (hown : w.ownsRow base 9 1 v m (xs.map str)) (hb : base ≤ w.heap.size) (hm : m ≤ 109951162777) (x : List UInt8) (g : Nat) (F1 : Fr (fun _ => False) w wa) (BX : Blk wa g 9 #[str x]) :
    ∃ a c w', (Builtin.append_ #[68, 68] 68 #[v, .slice (some ⟨g, 0, none⟩) 1 1]).run Tryz.prog wa = .ok (.slice a (m + 1) c) w' ∧ w'.ownsRow base 9 1 (.slice a (m + 1) c) (m + 1) ((xs ++ [x]).map str) ∧ Fr (fun k => v.ownBlock = some k) w w' := by
  rw [List.map_append]
  obtain ⟨a, c, w', h1, h2, h3, -⟩ := add_gen Tryz.underlying68 info9 rfl (by decide) (by decide) hown hb F1 g [str x] rfl BX (by simp [Value.oneCell']) hm
  exact ⟨a, c, w', h1, h2, h3⟩
def labelsOut (w' : World) (base : Nat) (r : Option (List (List UInt8))) (e : Ending) : Prop :=
  match r with
  | some ks => ∃ a c, e = .returned (.tuple #[.slice a ks.length c, .bool true]) ∧ w'.ownsRow base 9 1 (.slice a ks.length c) ks.length (ks.map str)
  | none => e = .returned (.tuple #[.slice none 0 0, .bool false])
end Go.Proofs.YthamenngccaijaaGreatDoor

namespace Go.Q
open Go Go.RowKit
def urisS (l : List Gen) : List (List UInt8) := (l.filter fun g => decide (g.k = 6) && genOk g).map (·.b)
theorem uris_take {l : List Gen} {j : Nat} {x : Gen} (h : l[j]? = some x) : urisS (l.take (j + 1)) = urisS (l.take j) ++ if (decide (x.k = 6) && genOk x) = true then [x.b] else [] := by
  unfold urisS
  rw [List.take_add_one, h]
  simp only [Option.toList_some, List.filter_append, List.map_append, List.filter_cons, List.filter_nil]
  congr 1
  split <;> simp_all
theorem gens_two {w : World} {b : Nat} {t : TypeId} {g p : Gen} {v1 v2 u1 u2 : Value} (B : Blk w b t #[.int .i64 g.k, v1, v2, .int .i64 p.k, u1, u2]) (h1 : Bytes w v1 g.b) (h2 : NameAt w v2 g.n) (h3 : Bytes w u1 p.b) (h4 : NameAt w u2 p.n) : Gens w (.slice (some ⟨b, 0, none⟩) 2 2) [g, p] := by
  refine ⟨_, 2, rfl, Nat.le_refl _, by unfold maxLen; omega, fun _ => ⟨b, 0, rfl, fun i x hx => ?_⟩⟩
  match i, hx with
  | 0, hx =>
    simp only [List.getElem?_cons_zero, Option.some.injEq] at hx
    subst hx
    refine ⟨[.int .i64 g.k, v1, v2], rfl, fun j u hu => ?_, _, _, rfl, h1, h2⟩
    have hj := (List.getElem?_eq_some_iff.1 hu).1
    simp only [List.length_cons, List.length_nil] at hj
    rw [show 0 + 3 * 0 + j = j by omega, B.cell j]
    match j, hj, hu with
    | 0, _, hu => exact hu
    | 1, _, hu => exact hu
    | 2, _, hu => exact hu
  | 1, hx =>
    simp only [List.getElem?_cons_succ, List.getElem?_cons_zero, Option.some.injEq] at hx
    subst hx
    refine ⟨[.int .i64 p.k, u1, u2], rfl, fun j u hu => ?_, _, _, rfl, h3, h4⟩
    have hj := (List.getElem?_eq_some_iff.1 hu).1
    simp only [List.length_cons, List.length_nil] at hj
    rw [show 0 + 3 * 1 + j = 3 + j by omega, B.cell (3 + j)]
    match j, hj, hu with
    | 0, _, hu => exact hu
    | 1, _, hu => exact hu
    | 2, _, hu => exact hu
end Go.Q
namespace Go.Proofs.YthamenngccaijaaGreatDoor
open Go Go.RowKit Go.Q
set_option linter.unusedSimpArgs false
set_option maxRecDepth 20000 in
set_option maxHeartbeats 4000000 in
theorem uris_any (v : Value) (l : List Gen) (w : World) (h : Gens w v l) (hf : ∀ g ∈ l, fewG g) (hl : l.length ≤ 1000000) :
    Calls Tryz.prog 36 #[v] w fun e w' => (∃ a c, e = .returned (.slice a (urisS l).length c) ∧ Strs w' (.slice a (urisS l).length c) (urisS l)) ∧ Fr (fun _ => False) w w' := by
  have H := Lib.hid h
  have HFW := Lib.hid hf
  obtain ⟨a0, cap0, rfl, -⟩ := h
  clear hf
  go_enter Tryz.func36, Tryz.ntmps36
  go_wp2_with fail
  go_loopg [3, 8] l.length (fun g u i wr => ∃ (j : Nat) (a : Option Addr) (c : Nat) (ks : List (List UInt8)), g = l.length - j ∧ j ≤ l.length ∧ u = .slice a ks.length c ∧ i = .int .i64 j ∧ ks.length ≤ j ∧ Hid (ks = urisS (l.take j)) ∧ wr.ownsRow w.heap.size 9 1 (.slice a ks.length c) ks.length (ks.map str) ∧ Fr (fun _ => False) w wr)
  case atStart => exact ⟨0, none, 0, [], rfl, Nat.zero_le _, rfl, rfl, by simp, Lib.hid rfl, ⟨rfl, .inl ⟨rfl, rfl⟩⟩, Fr.refl _⟩
  case round =>
    obtain ⟨j, a, c, ks, hg, hj, rfl, rfl, hkl, HKS, ho, F⟩ := hrel
    have HG := Lib.hid hg
    have HOW := Lib.hid ho
    have HF := Lib.hid F
    clear hg ho
    by_cases hjl : j < l.length
    · obtain ⟨x, hx⟩ : ∃ x, l[j]? = some x := ⟨_, List.getElem?_eq_getElem hjl⟩
      obtain ⟨b, o, ab, cb, an, cn, rfl, -, hga, e0, e1, e2⟩ := (H.out.old F).get hx
      have r1 : (0 : Int) ≤ (j : Int) := by omega
      have r2 : (j : Int) < (l.length : Int) := by omega
      have HX := Lib.hid hx
      have hfx := HFW.out x (List.mem_of_getElem? hx)
      obtain ⟨y, hy⟩ : ∃ y, y = wr.heap.size := ⟨_, rfl⟩
      have F1 : Fr (fun _ => False) wr (wr.alloc (.cells #[.int .i64 x.k, .slice ab x.b.length cb, .slice an x.n.length cn] 43)) := (Fr.refl wr).alloc _
      have BY := Blk.new wr 43 #[.int .i64 x.k, .slice ab x.b.length cb, .slice an x.n.length cn]
      rw [← hy] at BY
      have HGA := Lib.hid (hga.old F1)
      have HF1 := Lib.hid (F.trans F1)
      have HOW1 := Lib.hid (ownsRow_fr HOW.out F1 (fun _ _ h => h))
      have HR := Lib.hid (genRight_any _ x _ (hga.old F1) hfx)
      clear hx hga F F1 HOW HF
      go_upto_region 5 with fail
      rw [← hy]
      clear hy e0 e1 e2
      generalize (wr.alloc (.cells #[.int .i64 x.k, .slice ab x.b.length cb, .slice an x.n.length cn] 43)) = w1 at *
      have HBY := Lib.hid BY
      have y0 := BY.cell 0
      have y1 := BY.cell 1
      have y2 := BY.cell 2
      simp only [List.getElem?_toArray, List.getElem?_cons_succ, List.getElem?_cons_zero] at y0 y1 y2
      have skip : (decide (x.k = 6) && genOk x) = false → Hid (ks = urisS (l.take (j + 1))) := fun h => Lib.hid (by rw [uris_take HX.out, ← HKS.out, h]; simp)
      have HSK := Lib.hid skip
      have more : (decide (x.k = 6) && genOk x) = true → Hid (ks ++ [x.b] = urisS (l.take (j + 1))) := fun h => Lib.hid (by rw [uris_take HX.out, ← HKS.out, h]; simp)
      have HMO := Lib.hid more
      clear skip more BY
      by_cases h6 : x.k = 6
      · have q1 : (x.k == 6) = true := by rw [h6]; rfl
        obtain ⟨d, hd⟩ : ∃ d, d = genOk x := ⟨_, rfl⟩
        have HD := Lib.hid (show (decide (x.k = 6) && genOk x) = d by rw [decide_eq_true h6, hd]; rfl)
        rw [← hd] at HR
        clear hd h6
        go_wp2_with fail
        refine HR.out.mono ?_
        rintro e w2 ⟨rfl, F2⟩
        have HF2 := Lib.hid (HF1.out.trans F2)
        have HOW2 := Lib.hid (ownsRow_fr HOW1.out F2 (fun _ _ h => h))
        have BY2 := HBY.out.fr F2 (fun h => h)
        clear y0 y1 y2
        have y1 := BY2.cell 1
        simp only [List.getElem?_toArray, List.getElem?_cons_succ, List.getElem?_cons_zero] at y1
        cases d with
        | false =>
          have HN := HSK.out HD.out
          clear F2 BY2 HOW1 HF1 HR y1
          go_wp2_with fail
          go_roundg (l.length - (j + 1))
          case measure => rw [HG.out]; omega
          case rel => exact ⟨j + 1, a, c, ks, rfl, by omega, rfl, by go_num, by omega, HN, HOW2.out, HF2.out⟩
        | true =>
          have HN := HMO.out HD.out
          obtain ⟨vb, vn, heq, hbx, -⟩ := HGA.out.old F2
          simp only [Value.agg.injEq, Array.mk.injEq, List.cons.injEq, and_true, true_and] at heq
          obtain ⟨rfl, rfl⟩ := heq
          have hsr := str_of hbx
          obtain ⟨a7, c7, w7, hr7, ho7, F7⟩ := addStr HOW2.out HF2.out.size (by omega) x.b w2.heap.size ((Fr.refl w2).alloc (.cells #[str x.b] 9)) (Blk.new w2 9 #[str x.b])
          have HF7 := Lib.hid (HF2.out.trans' F7 (fun i hi e => by have := ((Vals.of_own HOW2.out).2 i e).1; omega))
          have HO7 := Lib.hid ho7
          have HRUN := Lib.hid hr7
          clear F2 BY2 HOW1 HF1 HR hr7 ho7 F7 hbx
          go_wp2_with (at_builtin; refine wpList_append_run (by rfl) (.tmp 19) (.tmp 23) 68 (by rfl) _ w7 (by exact HRUN.out) ?_)
          go_roundg (l.length - (j + 1))
          case measure => rw [HG.out]; omega
          case rel => exact ⟨j + 1, a7, c7, ks ++ [x.b], rfl, by omega, by rw [List.length_append]; rfl, by go_num, by rw [List.length_append]; simp; omega, HN, by rw [List.length_append]; exact HO7.out, HF7.out⟩
      · have q1 : (x.k == 6) = false := beq_eq_false_iff_ne.2 h6
        have HN := HSK.out (by rw [decide_eq_false h6]; rfl)
        clear h6
        go_wp2_with fail
        go_roundg (l.length - (j + 1))
        case measure => rw [HG.out]; omega
        case rel => exact ⟨j + 1, a, c, ks, rfl, by omega, rfl, by go_num, by omega, HN, HOW1.out, HF1.out⟩
    · have hks := HKS.out
      rw [List.take_of_length_le (by omega)] at hks
      have HE := Lib.hid hks
      clear hks
      go_wp2_with fail
      go_ret
      rw [← HE.out]
      exact ⟨⟨a, c, rfl, (Vals.of_own HOW.out).1⟩, F⟩
theorem bytes_block {w : World} {b : Nat} {cs : Array Value} (B : Blk w b 5 cs) (l : List UInt8) (hc : cs.toList = Lib.byteCells l) (n : Nat) (hn : l.length = n) (hm : n ≤ 1000) : Bytes w (.slice (some ⟨b, 0, none⟩) n n) l := by
  subst hn
  have h := Vals.of_block B (by have := congrArg List.length hc; rw [byteCells_len, Array.length_toList] at this; unfold maxLen; omega)
  have e : cs.size = l.length := by have := congrArg List.length hc; rwa [byteCells_len, Array.length_toList] at this
  rw [e, hc] at h
  exact h
theorem bytes_marked (w : World) (cs : Array Value) (fr : Nat × Nat) (l : List UInt8) (hc : cs.toList = Lib.byteCells l) (n : Nat) (hn : l.length = n) (hm : n ≤ 1000) : Bytes (w.alloc (.cells cs 5 fr)) (.slice (some ⟨w.heap.size, 0, none⟩) n n) l := by
  subst hn
  refine ⟨some ⟨w.heap.size, 0, none⟩, l.length, by rw [byteCells_len], by rw [byteCells_len]; exact Nat.le_refl _, by unfold maxLen; omega, fun _ => ⟨_, _, rfl, fun i u hu => ?_⟩⟩
  rw [Nat.zero_add, World.cell?_alloc_mark, ← Array.getElem?_toList, hc]
  exact hu
set_option maxRecDepth 100000 in
set_option maxHeartbeats 8000000 in
theorem gnKnown_any (w : World) (hE : Env w) :
    Calls Tryz.prog 21 #[] w fun e w' => e = .returned (.bool true) ∧ Fr (fun _ => False) w w' := by
  have HE := Lib.hid hE
  obtain ⟨b0, hb0⟩ : ∃ b0, b0 = w.heap.size := ⟨_, rfl⟩
  have F0 : Fr (fun _ => False) w (w.alloc (.cells #[.int .u8 130, .int .u8 3, .int .u8 97, .int .u8 46, .int .u8 98] 5)) := (Fr.refl w).alloc _
  have V0 := bytes_block (Blk.new w 5 #[.int .u8 130, .int .u8 3, .int .u8 97, .int .u8 46, .int .u8 98]) [130, 3, 97, 46, 98] (by rfl) 5 rfl (by decide)
  have HN0 := Lib.hid (new_any _ _ _ V0 (by decide))
  have HF0 := Lib.hid F0
  clear F0 V0 hE hb0
  go_enter Tryz.func21, Tryz.ntmps21
  go_wp2_with fail
  refine HN0.out.mono ?_
  rintro e w1 ⟨rfl, C1, F1⟩
  have HR1 := genRead_any C1 (by decide)
  rw [List.drop_zero, show genReadS [130, 3, 97, 46, 98] = .ok (⟨2, [97, 46, 98], []⟩, 5) from by kernel_rfl] at HR1
  have HRI := Lib.hid HR1
  have hc0 := C1.lt
  have HF1 := Lib.hid (HF0.out.trans F1)
  have hs1 := F1.size
  have hs0 := HF0.out.size
  obtain ⟨c1, hc1⟩ : ∃ c1, c1 = (w.alloc (.cells #[.int .u8 130, .int .u8 3, .int .u8 97, .int .u8 46, .int .u8 98] 5)).heap.size := ⟨_, rfl⟩
  rw [← hc1] at HRI ⊢ hc0 hs1
  have hcw : w.heap.size ≤ c1 := by omega
  clear C1 F1 HR1 HN0 HF0 hc1
  go_wp2_with fail
  refine HRI.out.mono ?_
  rintro e w2 ⟨hout, F2⟩
  obtain ⟨ab, cb, an, cn, rfl, hk, -⟩ := hout
  simp only [List.length_cons, List.length_nil] at hk ⊢
  have HF2 := Lib.hid (HF1.out.trans' F2 (fun i hi e => by omega))
  have HK2 := Lib.hid hk
  have hs2 := F2.size
  obtain ⟨x1, hx1⟩ : ∃ x1, x1 = w2.heap.size := ⟨_, rfl⟩
  have F3 : Fr (fun _ => False) w2 (w2.alloc (.cells #[.int .i64 2, .slice ab 3 cb, .slice an 0 cn] 43)) := (Fr.refl w2).alloc _
  have B3 := Blk.new w2 43 #[.int .i64 2, .slice ab 3 cb, .slice an 0 cn]
  rw [← hx1] at B3
  have HF3 := Lib.hid (HF2.out.trans F3)
  have HK3 := Lib.hid (HK2.out.old F3)
  clear F2 hk HRI HF1 HF2 HK2 F3
  go_upto_region 2 with fail
  rw [← hx1]
  have HX1 := Lib.hid hx1
  clear hx1
  generalize (w2.alloc (.cells #[.int .i64 2, .slice ab 3 cb, .slice an 0 cn] 43)) = w3 at *
  have HB3 := Lib.hid B3
  have hs3 := HF3.out.size
  have HK3 := Lib.hid (HK3.out.step (K' := fun k => w3.heap.size ≤ k) (Fr.refl (S := fun _ => False) w3) (fun _ _ h => h.elim) (fun k hk => .inr hk))
  have F4 : Fr (fun _ => False) w3 (w3.alloc (.cells #[.int .u8 135, .int .u8 3, .int .u8 1, .int .u8 2, .int .u8 3] 5)) := (Fr.refl w3).alloc _
  have V4 := bytes_block (Blk.new w3 5 #[.int .u8 135, .int .u8 3, .int .u8 1, .int .u8 2, .int .u8 3]) [135, 3, 1, 2, 3] (by rfl) 5 rfl (by decide)
  have HN4 := Lib.hid (new_any _ _ _ V4 (by decide))
  have HF4 := Lib.hid F4
  clear V4 F4 B3
  go_wp2_with fail
  refine HN4.out.mono ?_
  rintro e w5 ⟨rfl, C5, F5⟩
  have HR5 := genRead_any C5 (by decide)
  rw [List.drop_zero, show genReadS [135, 3, 1, 2, 3] = .error 6 from by kernel_rfl] at HR5
  have HRI := Lib.hid HR5
  have F45 := HF4.out.trans F5
  have HF5 := Lib.hid (HF3.out.trans F45)
  have HG5 := Lib.hid (F45.mono (T := fun k => w3.heap.size ≤ k) (fun _ _ h => h.elim))
  have HB5 := Lib.hid (HB3.out.fr F45 (fun h => h))
  have hs5 := HF4.out.size
  obtain ⟨c5, hc5⟩ : ∃ c5, c5 = (w3.alloc (.cells #[.int .u8 135, .int .u8 3, .int .u8 1, .int .u8 2, .int .u8 3] 5)).heap.size := ⟨_, rfl⟩
  rw [← hc5] at HRI ⊢
  have hc5w : w3.heap.size ≤ c5 := by omega
  have hx1c : x1 ≠ c5 := by have := HB3.out.lt; omega
  have hx13 := HB3.out.lt
  clear C5 F5 HR5 HN4 HF4 F45 HF3 HB3 hc5
  go_wp2_with fail
  refine HRI.out.mono ?_
  rintro e w6 ⟨hout, F6⟩
  obtain ⟨rfl, -, -⟩ := hout
  have F7 : Fr (fun _ => False) w6 (w6.alloc (.cells #[.int .i64 0, .slice none 0 0, .slice none 0 0] 43)) := (Fr.refl w6).alloc _
  have HF7 := Lib.hid ((HF5.out.trans' F6 (fun i hi e => by omega)).trans F7)
  have HG7 := Lib.hid ((HG5.out.trans (F6.mono (T := fun k => w3.heap.size ≤ k) (fun k _ e => by omega))).trans (F7.mono (T := fun k => w3.heap.size ≤ k) (fun _ _ h => h.elim)))
  have HB7 := Lib.hid ((HB5.out.fr F6 hx1c).fr F7 (fun h => h))
  clear F6 F7 HF5 HG5 HB5 HRI
  go_upto_region 3 with fail
  generalize (w6.alloc (.cells #[.int .i64 0, .slice none 0 0, .slice none 0 0] 43)) = w7 at *
  have hs7 := HG7.out.size
  have F8 : Fr (fun _ => False) w7 (w7.alloc (.cells #[.int .u8 134, .int .u8 1, .int .u8 120] 5)) := (Fr.refl w7).alloc _
  have V8 := bytes_block (Blk.new w7 5 #[.int .u8 134, .int .u8 1, .int .u8 120]) [134, 1, 120] (by rfl) 3 rfl (by decide)
  have HN8 := Lib.hid (new_any _ _ _ V8 (by decide))
  have HF8 := Lib.hid F8
  have hs8 := F8.size
  clear V8 F8
  go_wp2_with fail
  refine HN8.out.mono ?_
  rintro e w9 ⟨rfl, C9, F9⟩
  have HR9 := genRead_any C9 (by decide)
  rw [List.drop_zero, show genReadS [134, 1, 120] = .ok (⟨6, [120], []⟩, 3) from by kernel_rfl] at HR9
  have HRI := Lib.hid HR9
  have F89 := HF8.out.trans F9
  have HF9 := Lib.hid (HF7.out.trans F89)
  have HG9 := Lib.hid (HG7.out.trans (F89.mono (T := fun k => w3.heap.size ≤ k) (fun _ _ h => h.elim)))
  have HB9 := Lib.hid (HB7.out.fr F89 (fun h => h))
  have hs9 := F9.size
  obtain ⟨c9, hc9⟩ : ∃ c9, c9 = (w7.alloc (.cells #[.int .u8 134, .int .u8 1, .int .u8 120] 5)).heap.size := ⟨_, rfl⟩
  rw [← hc9] at HRI ⊢
  have hc9w : w7.heap.size ≤ c9 := by omega
  have hx1d : x1 ≠ c9 := by omega
  clear C9 F9 HR9 HN8 HF8 F89 HF7 HG7 HB7 hc9
  go_wp2_with fail
  refine HRI.out.mono ?_
  rintro e w10 ⟨hout, F10⟩
  obtain ⟨ab2, cb2, an2, cn2, rfl, hk2, -⟩ := hout
  simp only [List.length_cons, List.length_nil] at hk2 ⊢
  obtain ⟨x5, hx5⟩ : ∃ x5, x5 = w10.heap.size := ⟨_, rfl⟩
  have F11 : Fr (fun _ => False) w10 (w10.alloc (.cells #[.int .i64 6, .slice ab2 1 cb2, .slice an2 0 cn2] 43)) := (Fr.refl w10).alloc _
  have B11 := Blk.new w10 43 #[.int .i64 6, .slice ab2 1 cb2, .slice an2 0 cn2]
  rw [← hx5] at B11
  have HF11 := Lib.hid ((HF9.out.trans' F10 (fun i hi e => by omega)).trans F11)
  have HG11 := Lib.hid ((HG9.out.trans (F10.mono (T := fun k => w3.heap.size ≤ k) (fun k _ e => by omega))).trans (F11.mono (T := fun k => w3.heap.size ≤ k) (fun _ _ h => h.elim)))
  have HB11 := Lib.hid ((HB9.out.fr F10 hx1d).fr F11 (fun h => h))
  have HU11 := Lib.hid (hk2.old F11).now
  clear F10 F11 HF9 HG9 HB9 HRI hk2
  go_upto_region 4 with fail
  rw [← hx5]
  clear hx5
  generalize (w10.alloc (.cells #[.int .i64 6, .slice ab2 1 cb2, .slice an2 0 cn2] 43)) = w11 at *
  have HA11 := Lib.hid (HK3.out w11 HG11.out)
  have HX5 := Lib.hid B11
  have y0 := B11.cell 0
  have y1 := B11.cell 1
  have y2 := B11.cell 2
  have z0 := HB11.out.cell 0
  have z1 := HB11.out.cell 1
  have z2 := HB11.out.cell 2
  simp only [List.getElem?_toArray, List.getElem?_cons_succ, List.getElem?_cons_zero] at y0 y1 y2 z0 z1 z2
  have F12 : Fr (fun _ => False) w11 (w11.alloc (.cells #[.int .i64 2, .slice ab 3 cb, .slice an 0 cn, .int .i64 6, .slice ab2 1 cb2, .slice an2 0 cn2] 43)) := (Fr.refl w11).alloc _
  have G12 := gens_two (g := ⟨2, [97, 46, 98], []⟩) (p := ⟨6, [120], []⟩) (Blk.new w11 43 #[.int .i64 2, .slice ab 3 cb, .slice an 0 cn, .int .i64 6, .slice ab2 1 cb2, .slice an2 0 cn2]) (HA11.out.1.old F12) (HA11.out.2.old F12) (HU11.out.1.old F12) (HU11.out.2.old F12)
  have HUR := uris_any _ _ _ G12 (fun g hg => by
    simp only [List.mem_cons, List.not_mem_nil, or_false] at hg
    rcases hg with rfl | rfl
    · exact ⟨by simp, by simp⟩
    · exact ⟨by simp, by simp⟩) (by simp)
  rw [show urisS [⟨2, [97, 46, 98], []⟩, ⟨6, [120], []⟩] = [[120]] from by kernel_rfl] at HUR
  have HUI := Lib.hid HUR
  have HF12 := Lib.hid (HF11.out.trans F12)
  have HB12 := Lib.hid (HB11.out.fr F12 (fun h => h))
  have HA12 := Lib.hid (And.intro (HA11.out.1.old F12) (HA11.out.2.old F12))
  clear F12 G12 HUR HF11 HB11 HU11 HA11 B11
  go_wp2_with fail
  refine HUI.out.mono ?_
  rintro e w13 ⟨⟨a13, c13, rfl, hst⟩, F13⟩
  simp only [List.length_cons, List.length_nil] at hst ⊢
  obtain ⟨aS, cS, heS, -, -, hxS⟩ := Strs.form hst
  simp only [Value.slice.injEq, List.length_cons, List.length_nil, true_and] at heS
  obtain ⟨rfl, rfl⟩ := heS
  obtain ⟨bS, oS, rfl, hyS⟩ := hxS (by simp)
  have s0 := hyS 0 [120] rfl
  have HF13 := Lib.hid (HF12.out.trans F13)
  have B13 := HB12.out.fr F13 (fun h => h)
  have HA13 := Lib.hid (And.intro (HA12.out.1.old F13) (HA12.out.2.old F13))
  clear F13 HF12 HB12 HA12 HUI y0 y1 y2 z0 z1 z2 hxS hyS hst
  have z0 := B13.cell 0
  have z1 := B13.cell 1
  have z2 := B13.cell 2
  simp only [List.getElem?_toArray, List.getElem?_cons_succ, List.getElem?_cons_zero] at z0 z1 z2
  have F14 : Fr (fun _ => False) w13 (w13.alloc (.cells #[.int .u8 65, .int .u8 46, .int .u8 66, .int .u8 46] 5 (4, 5))) := (Fr.refl w13).alloc _
  have V14 := bytes_marked w13 #[.int .u8 65, .int .u8 46, .int .u8 66, .int .u8 46] (4, 5) [65, 46, 66, 46] (by rfl) 4 rfl (by decide)
  have hcv : (Go.convert 23 23 (.slice (some ⟨w13.heap.size, 0, none⟩) 4 4)).run Tryz.prog (w13.alloc (.cells #[.int .u8 65, .int .u8 46, .int .u8 66, .int .u8 46] 5)) = .ok (.slice (some ⟨w13.heap.size, 0, none⟩) 4 4) (w13.alloc (.cells #[.int .u8 65, .int .u8 46, .int .u8 66, .int .u8 46] 5 (4, 5))) := Lib.run_convert_bytes_const (P := Tryz.prog) w13 23 5 #[.int .u8 65, .int .u8 46, .int .u8 66, .int .u8 46] 4 4 Tryz.underlying23 Tryz.underlying5
  have HSM := genSame_any (.agg #[.int .i64 2, .slice ab 3 cb, .slice an 0 cn]) (.agg #[.int .i64 2, .slice (some ⟨w13.heap.size, 0, none⟩) 4 4, .slice none 0 0]) ⟨2, [97, 46, 98], []⟩ ⟨2, [65, 46, 66, 46], []⟩ (w13.alloc (.cells #[.int .u8 65, .int .u8 46, .int .u8 66, .int .u8 46] 5 (4, 5))) ⟨_, _, rfl, HA13.out.1.old F14, HA13.out.2.old F14⟩ ⟨_, _, rfl, V14, (name_nil (fun _ => True) _).now⟩ ⟨by simp, by simp⟩ ⟨by simp, by simp⟩ (HE.out.old (HF13.out.trans F14))
  rw [show genSameS ⟨2, [97, 46, 98], []⟩ ⟨2, [65, 46, 66, 46], []⟩ = true from by kernel_rfl] at HSM
  have HSI := Lib.hid HSM
  have HF14 := Lib.hid (HF13.out.trans F14)
  have HS0 := Lib.hid (F14.cell s0 (fun h => h))
  clear F14 V14 HSM HF13 HA13 B13
  go_wp2_with fail
  refine HSI.out.mono ?_
  rintro e w15 ⟨rfl, F15⟩
  have s1 := F15.cell HS0.out (fun h => h)
  rw [Nat.add_zero] at s1
  have HF15 := Lib.hid (HF14.out.trans F15)
  clear s0 z0 z1 z2 F15
  go_wp2_with fail
  go_ret
  exact ⟨rfl, HF15.out⟩
end Go.Proofs.YthamenngccaijaaGreatDoor

namespace Go.Q
open Go Go.RowKit
theorem few_of {g : Gen} (h : genOk g = true) (hl : (genBody g).length ≤ 10000000) : fewG g := by
  unfold genOk at h
  by_cases h4 : g.k = 4
  · rw [if_pos h4, Bool.and_eq_true, decide_eq_true_eq] at h
    have hb : genBody g = nameWhole g.n := if_pos h4
    rw [hb] at hl
    exact ⟨by omega, (whole_part h.2 (m := 10000000) hl).2⟩
  · rw [if_neg h4, Bool.and_eq_true, decide_eq_true_eq] at h
    have hb : genBody g = g.b := if_neg h4
    rw [hb] at hl
    exact ⟨hl, by rw [List.length_eq_zero_iff.1 h.1]; simp⟩
theorem genSame_self {g : Gen} (h : genOk g = true) : genSameS g g = true := by
  unfold genSameS
  rw [h, decide_eq_true rfl]
  rfl
end Go.Q
namespace Go.Proofs.YthamenngccaijaaGreatDoor
open Go Go.RowKit Go.Q
set_option linter.unusedSimpArgs false
theorem genAll_facts {b : List UInt8} {gs : List Gen} (h : genAllS b = .ok gs) (hl : b.length ≤ 2000) : allOkS gs = true ∧ genAll gs = b ∧ ∀ g ∈ gs, fewG g := by
  obtain ⟨h1, h2, h3, h4⟩ := genAll_back h
  have h2' : genAll gs = b := h2
  have h0 : 0 < gs.length := List.length_pos_iff.2 h3
  refine ⟨?_, h2', fun g hg => few_of (h1 g hg).1 ?_⟩
  · show (gs.all genOk && decide (0 < gs.length ∧ gs.length ≤ 10000)) = true
    rw [List.all_eq_true.2 (fun g hg => (h1 g hg).1), decide_eq_true ⟨h0, h4⟩]
    rfl
  · have := gen_part hg
    rw [h2'] at this
    have := body_le_whole g
    omega
set_option maxRecDepth 100000 in
set_option maxHeartbeats 8000000 in
theorem gbWalk_any (v : Value) (b0 : List UInt8) (w : World) (h : Bytes w v b0) (hE : Env w) :
    Calls Tryz.prog 8 #[v] w fun e w' => e = .returned (.bool true) ∧ Fr (fun _ => False) w w' := by
  obtain ⟨a0, cap, rfl, hc, hm, -⟩ := h.form
  obtain ⟨m, hmm⟩ : ∃ m : Nat, m = min b0.length 2000 := ⟨_, rfl⟩
  have H := Lib.hid (h.cut 2000 m hmm)
  obtain ⟨b, hb⟩ : ∃ b, b = b0.take 2000 := ⟨_, rfl⟩
  rw [← hb] at H
  have hbl : b.length ≤ 10000000 := by rw [hb, List.length_take]; omega
  have hbm : b.length = m := by rw [hb, List.length_take]; omega
  have q1 : min (b0.length : Int) 2000 = (m : Int) := by omega
  have q2 : (0 : Int) ≤ (m : Int) := by omega
  have q3 : (m : Int) ≤ (cap : Int) := by omega
  have hm2 : b.length ≤ 2000 := by omega
  have hmc : b.length ≤ cap := by omega
  have HE := Lib.hid hE
  have HBM := Lib.hid hbm
  obtain ⟨r1, hr1⟩ : ∃ r, r = genReadS b := ⟨_, rfl⟩
  obtain ⟨r2, hr2⟩ : ∃ r, r = genAllS b := ⟨_, rfl⟩
  have HR1 := Lib.hid hr1
  have HR2 := Lib.hid hr2
  clear h hE hb hbm hmm hm hc hr1 hr2
  go_enter Tryz.func8, Tryz.ntmps8
  go_wp2_with fail
  refine (new_any w _ b H.out (by omega)).mono ?_
  rintro e w1 ⟨rfl, C1, F1⟩
  obtain ⟨c, hcc⟩ : ∃ c, c = w.heap.size := ⟨_, rfl⟩
  have hs1 := F1.size
  have hc1 := C1.lt
  have H1 := Lib.hid (H.out.old F1)
  have HF1 := Lib.hid F1
  rw [← hcc] at C1 hc1 ⊢
  have HC1 := Lib.hid (C1.step (K' := fun k => k < c ∨ w1.heap.size ≤ k) (Fr.refl w1) (S := fun _ => False) (fun _ _ h => h.elim) (fun _ h => h))
  have HCC := Lib.hid hcc
  clear C1 F1 hcc
  go_wp2_with fail
  refine (new_any w1 _ b H1.out (by omega)).mono ?_
  rintro e w2 ⟨rfl, C2, F2⟩
  obtain ⟨d, hdd⟩ : ∃ d, d = w1.heap.size := ⟨_, rfl⟩
  have hs2 := F2.size
  have HF2 := Lib.hid (HF1.out.trans F2)
  rw [← hdd] at C2 ⊢
  have HC2 := Lib.hid (HC1.out.old F2)
  have hcd : c < d := by omega
  have hcw : w.heap.size ≤ c := by have := HCC.out; omega
  have hd1 : w1.heap.size ≤ d := by omega
  have HO := Lib.hid (readAll_one C2 hbl)
  rw [List.drop_zero, ← HR2.out] at HO
  have HDD := Lib.hid hdd
  clear C2 F2 HF1 H1 HC1 hdd hs1 hs2
  go_wp2_with fail
  refine HO.out.mono ?_
  rintro e w3 ⟨⟨ag, cg, rfl, hx, -⟩, F3⟩
  have HP3 := Lib.hid hx.now
  have HC3 := Lib.hid (HC2.out.step (K' := fun k => k < c ∨ w1.heap.size ≤ k) F3 (fun k _ e => .inr (by omega)) (fun k h => .inl h))
  have HF3 := Lib.hid (HF2.out.trans' F3 (fun i hi e => by omega))
  clear hx F3 HO HC2 HF2
  have hcase : (errOf r2 = 0 ∧ allOkS (gaVal r2) = true ∧ genAll (gaVal r2) = b ∧ ∀ g ∈ gaVal r2, fewG g) ∨ errOf r2 ≠ 0 := by
    have h2 := HR2.out
    cases hr : genAllS b with
    | error x =>
      refine .inr ?_
      rw [h2, hr]
      exact genAll_nz hr
    | ok gs =>
      refine .inl ?_
      rw [h2, hr]
      exact ⟨rfl, genAll_facts hr hm2⟩
  rcases hcase with ⟨hz, k1, k2, k3⟩ | hz
  case inl =>
    have hz0 : (errOf r2 == 0) = true := by rw [hz]; rfl
    have HO := Lib.hid (genWriteAll_any _ _ w3 HP3.out k3 (fun _ => by rw [k2]; omega))
    rw [k1, k2] at HO
    clear hz k1 k2 k3 HP3
    go_wp2_with fail
    refine HO.out.mono ?_
    rintro e w4 ⟨⟨hf, -⟩ | ⟨-, a4, c4, rfl, ho⟩, F4⟩
    · cases hf
    have HV4 := Lib.hid (Vals.of_own ho).1
    have HC4 := Lib.hid (HC3.out.old F4)
    have HF4 := Lib.hid (HF3.out.trans F4)
    have HO := Lib.hid (r01Same_any _ _ b b w4 HV4.out (H.out.old HF4.out))
    rw [decide_eq_true rfl] at HO
    clear ho F4 HC3 HF3
    go_wp2_with fail
    refine HO.out.mono ?_
    rintro e w5 ⟨rfl, F5⟩
    have HC5 := Lib.hid (HC4.out.old F5)
    have HF5 := Lib.hid (HF4.out.trans F5)
    clear F5 HO HC4 HF4 HV4
    go_upto_region 8 with fail
    have HO := Lib.hid (genRead_one HC5.out hbl)
    rw [List.drop_zero, ← HR1.out, Nat.zero_add] at HO
    go_wp2_with fail
    refine HO.out.mono ?_
    rintro e w6 ⟨⟨ab, cb, an, cn, rfl, hx, C6⟩, F6⟩
    have HX6 := Lib.hid hx.now
    have HC6 := Lib.hid C6
    have HF6 := Lib.hid (HF5.out.trans' F6 (fun i hi e => by omega))
    clear hx C6 F6 HC5 HF5 HO
    have hcase : (errOf r1 = 0 ∧ genOk (gVal r1) = true ∧ (genBody (gVal r1)).length ≤ 16777216 ∧ fewG (gVal r1) ∧ genWhole (gVal r1) = b.take (atOf r1) ∧ atOf r1 ≤ b.length) ∨ errOf r1 ≠ 0 := by
      have h2 := HR1.out
      cases hr : genReadS b with
      | error x =>
        refine .inr ?_
        rw [h2, hr]
        exact genRead_nz hr
      | ok gk =>
        obtain ⟨g, k⟩ := gk
        refine .inl ?_
        rw [h2, hr]
        obtain ⟨⟨i1, i2, i3⟩, i4, -, i5⟩ := genRead_back _ _ _ hr
        exact ⟨rfl, i1, i3, few_of i1 (show (genBody g).length ≤ 10000000 by omega), i4.symm, i5⟩
    obtain ⟨g, hg⟩ : ∃ g, g = gVal r1 := ⟨_, rfl⟩
    rw [← hg] at HX6 hcase ⊢
    obtain ⟨x1, hx1⟩ : ∃ x, errOf r1 = x := ⟨_, rfl⟩
    rw [hx1] at hcase ⊢
    obtain ⟨n1, hn1⟩ : ∃ n, atOf r1 = n := ⟨_, rfl⟩
    rw [hn1] at hcase HC6
    clear hg hx1 hn1
    obtain ⟨z1, hz1⟩ : ∃ z, z = w6.heap.size := ⟨_, rfl⟩
    have F7 : Fr (fun _ => False) w6 (w6.alloc (.cells #[.int .i64 g.k, .slice ab g.b.length cb, .slice an g.n.length cn] 43)) := (Fr.refl w6).alloc _
    have B7 := Blk.new w6 43 #[.int .i64 g.k, .slice ab g.b.length cb, .slice an g.n.length cn]
    rw [← hz1] at B7
    have HX7 := Lib.hid (And.intro (HX6.out.1.old F7) (HX6.out.2.old F7))
    have HC7 := Lib.hid (HC6.out.old F7)
    have HF7 := Lib.hid (HF6.out.trans F7)
    have HZ1 := Lib.hid hz1
    clear hz1 F7 HX6 HC6 HF6
    rcases hcase with ⟨hz, k1, k2, k3, k4, k5⟩ | hz
    · have hz0 : (x1 == 0) = true := by rw [hz]; rfl
      go_upto_region 10 with fail
      rw [← HZ1.out]
      generalize (w6.alloc (.cells #[.int .i64 g.k, .slice ab g.b.length cb, .slice an g.n.length cn] 43)) = w7 at *
      have HO := Lib.hid (genWrite_ok _ g w7 ⟨_, _, rfl, HX7.out.1, HX7.out.2⟩ k3 k1 k2)
      have HK1 := Lib.hid k1
      have HK3 := Lib.hid k3
      have HK4 := Lib.hid k4
      have p1 : (0 : Int) ≤ (n1 : Int) := by omega
      have p2 : (n1 : Int) ≤ (cap : Int) := by omega
      have HCUT := Lib.hid (fun W (hW : Bytes W (.slice a0 m cap) b) => Vals.cut (N := n1) (m := n1) (by rw [HBM.out]; exact hW) (by omega))
      have HB7 := Lib.hid B7
      have e0 := B7.cell 0
      have e1 := B7.cell 1
      have e2 := B7.cell 2
      simp only [List.getElem?_toArray, List.getElem?_cons_succ, List.getElem?_cons_zero] at e0 e1 e2
      clear k1 k2 k3 k4 k5 hz B7
      go_wp2_with fail
      refine HO.out.mono ?_
      rintro e w8 ⟨⟨a8, c8, rfl, ho⟩, F8⟩
      have HV8 := Lib.hid (Vals.of_own ho).1
      have HX8 := Lib.hid (And.intro (HX7.out.1.old F8) (HX7.out.2.old F8))
      have HC8 := Lib.hid (HC7.out.old F8)
      have HF8 := Lib.hid (HF7.out.trans F8)
      have HB8 := Lib.hid (HB7.out.fr F8 (fun h => h))
      clear ho F8 HO HX7 HC7 HF7 HB7 e0 e1 e2
      have HO := Lib.hid (at_any HC8.out)
      go_wp2_with fail
      refine HO.out.mono ?_
      rintro e w8' ⟨rfl, rfl⟩
      clear HO
      have HO := Lib.hid (r01Same_any _ _ (genWhole g) (b.take n1) w8 HV8.out (HCUT.out _ (H.out.old HF8.out)))
      rw [decide_eq_true (show genWhole g = b.take n1 from HK4.out)] at HO
      have e0 := HB8.out.cell 0
      have e1 := HB8.out.cell 1
      have e2 := HB8.out.cell 2
      simp only [List.getElem?_toArray, List.getElem?_cons_succ, List.getElem?_cons_zero] at e0 e1 e2
      go_wp2_with fail
      refine HO.out.mono ?_
      rintro e w9 ⟨rfl, F9⟩
      have HX9 := Lib.hid (And.intro (HX8.out.1.old F9) (HX8.out.2.old F9))
      have HF9 := Lib.hid (HF8.out.trans F9)
      have HB9 := Lib.hid (HB8.out.fr F9 (fun h => h))
      clear F9 HO HX8 HF8 HB8 HV8 HC8 e0 e1 e2
      have HO := Lib.hid (genRight_any _ g w9 ⟨_, _, rfl, HX9.out.1, HX9.out.2⟩ HK3.out)
      rw [HK1.out] at HO
      have e0 := HB9.out.cell 0
      have e1 := HB9.out.cell 1
      have e2 := HB9.out.cell 2
      simp only [List.getElem?_toArray, List.getElem?_cons_succ, List.getElem?_cons_zero] at e0 e1 e2
      go_wp2_with fail
      refine HO.out.mono ?_
      rintro e w10 ⟨rfl, F10⟩
      have HX10 := Lib.hid (And.intro (HX9.out.1.old F10) (HX9.out.2.old F10))
      have HF10 := Lib.hid (HF9.out.trans F10)
      have HB10 := Lib.hid (HB9.out.fr F10 (fun h => h))
      clear F10 HO HX9 HF9 HB9 e0 e1 e2
      have HO := Lib.hid (genSame_any _ _ g g w10 ⟨_, _, rfl, HX10.out.1, HX10.out.2⟩ ⟨_, _, rfl, HX10.out.1, HX10.out.2⟩ HK3.out HK3.out (HE.out.old HF10.out))
      rw [genSame_self HK1.out] at HO
      have e0 := HB10.out.cell 0
      have e1 := HB10.out.cell 1
      have e2 := HB10.out.cell 2
      simp only [List.getElem?_toArray, List.getElem?_cons_succ, List.getElem?_cons_zero] at e0 e1 e2
      go_wp2_with fail
      refine HO.out.mono ?_
      rintro e w11 ⟨rfl, F11⟩
      have HF11 := Lib.hid (HF10.out.trans F11)
      clear F11 HO HX10 HF10 HB10 e0 e1 e2
      have HK := Lib.hid (gnKnown_any _ (HE.out.old HF11.out))
      go_wp2_with fail
      refine HK.out.mono ?_
      rintro e w12 ⟨rfl, F12⟩
      have HF12 := Lib.hid (HF11.out.trans F12)
      clear HK F12
      go_wp2_with fail
      go_ret
      exact ⟨rfl, HF12.out⟩
    · have hz0 : (x1 == 0) = false := by simpa using hz
      go_upto_region 13 with fail
      rw [← HZ1.out]
      generalize (w6.alloc (.cells #[.int .i64 g.k, .slice ab g.b.length cb, .slice an g.n.length cn] 43)) = w7 at *
      have HK := Lib.hid (gnKnown_any _ (HE.out.old HF7.out))
      go_wp2_with fail
      refine HK.out.mono ?_
      rintro e w8 ⟨rfl, F8⟩
      have HF8 := Lib.hid (HF7.out.trans F8)
      clear HK F8
      go_wp2_with fail
      go_ret
      exact ⟨rfl, HF8.out⟩
  case inr =>
    have hz0 : (errOf r2 == 0) = false := by simpa using hz
    clear hz HP3
    go_upto_region 8 with fail
    have HO := Lib.hid (genRead_one HC3.out hbl)
    rw [List.drop_zero, ← HR1.out, Nat.zero_add] at HO
    go_wp2_with fail
    refine HO.out.mono ?_
    rintro e w6 ⟨⟨ab, cb, an, cn, rfl, hx, C6⟩, F6⟩
    have HX6 := Lib.hid hx.now
    have HC6 := Lib.hid C6
    have HF6 := Lib.hid (HF3.out.trans' F6 (fun i hi e => by omega))
    clear hx C6 F6 HC3 HF3 HO
    have hcase : (errOf r1 = 0 ∧ genOk (gVal r1) = true ∧ (genBody (gVal r1)).length ≤ 16777216 ∧ fewG (gVal r1) ∧ genWhole (gVal r1) = b.take (atOf r1) ∧ atOf r1 ≤ b.length) ∨ errOf r1 ≠ 0 := by
      have h2 := HR1.out
      cases hr : genReadS b with
      | error x =>
        refine .inr ?_
        rw [h2, hr]
        exact genRead_nz hr
      | ok gk =>
        obtain ⟨g, k⟩ := gk
        refine .inl ?_
        rw [h2, hr]
        obtain ⟨⟨i1, i2, i3⟩, i4, -, i5⟩ := genRead_back _ _ _ hr
        exact ⟨rfl, i1, i3, few_of i1 (show (genBody g).length ≤ 10000000 by omega), i4.symm, i5⟩
    obtain ⟨g, hg⟩ : ∃ g, g = gVal r1 := ⟨_, rfl⟩
    rw [← hg] at HX6 hcase ⊢
    obtain ⟨x1, hx1⟩ : ∃ x, errOf r1 = x := ⟨_, rfl⟩
    rw [hx1] at hcase ⊢
    obtain ⟨n1, hn1⟩ : ∃ n, atOf r1 = n := ⟨_, rfl⟩
    rw [hn1] at hcase HC6
    clear hg hx1 hn1
    obtain ⟨z1, hz1⟩ : ∃ z, z = w6.heap.size := ⟨_, rfl⟩
    have F7 : Fr (fun _ => False) w6 (w6.alloc (.cells #[.int .i64 g.k, .slice ab g.b.length cb, .slice an g.n.length cn] 43)) := (Fr.refl w6).alloc _
    have B7 := Blk.new w6 43 #[.int .i64 g.k, .slice ab g.b.length cb, .slice an g.n.length cn]
    rw [← hz1] at B7
    have HX7 := Lib.hid (And.intro (HX6.out.1.old F7) (HX6.out.2.old F7))
    have HC7 := Lib.hid (HC6.out.old F7)
    have HF7 := Lib.hid (HF6.out.trans F7)
    have HZ1 := Lib.hid hz1
    clear hz1 F7 HX6 HC6 HF6
    rcases hcase with ⟨hz, k1, k2, k3, k4, k5⟩ | hz
    · have hz0 : (x1 == 0) = true := by rw [hz]; rfl
      go_upto_region 10 with fail
      rw [← HZ1.out]
      generalize (w6.alloc (.cells #[.int .i64 g.k, .slice ab g.b.length cb, .slice an g.n.length cn] 43)) = w7 at *
      have HO := Lib.hid (genWrite_ok _ g w7 ⟨_, _, rfl, HX7.out.1, HX7.out.2⟩ k3 k1 k2)
      have HK1 := Lib.hid k1
      have HK3 := Lib.hid k3
      have HK4 := Lib.hid k4
      have p1 : (0 : Int) ≤ (n1 : Int) := by omega
      have p2 : (n1 : Int) ≤ (cap : Int) := by omega
      have HCUT := Lib.hid (fun W (hW : Bytes W (.slice a0 m cap) b) => Vals.cut (N := n1) (m := n1) (by rw [HBM.out]; exact hW) (by omega))
      have HB7 := Lib.hid B7
      have e0 := B7.cell 0
      have e1 := B7.cell 1
      have e2 := B7.cell 2
      simp only [List.getElem?_toArray, List.getElem?_cons_succ, List.getElem?_cons_zero] at e0 e1 e2
      clear k1 k2 k3 k4 k5 hz B7
      go_wp2_with fail
      refine HO.out.mono ?_
      rintro e w8 ⟨⟨a8, c8, rfl, ho⟩, F8⟩
      have HV8 := Lib.hid (Vals.of_own ho).1
      have HX8 := Lib.hid (And.intro (HX7.out.1.old F8) (HX7.out.2.old F8))
      have HC8 := Lib.hid (HC7.out.old F8)
      have HF8 := Lib.hid (HF7.out.trans F8)
      have HB8 := Lib.hid (HB7.out.fr F8 (fun h => h))
      clear ho F8 HO HX7 HC7 HF7 HB7 e0 e1 e2
      have HO := Lib.hid (at_any HC8.out)
      go_wp2_with fail
      refine HO.out.mono ?_
      rintro e w8' ⟨rfl, rfl⟩
      clear HO
      have HO := Lib.hid (r01Same_any _ _ (genWhole g) (b.take n1) w8 HV8.out (HCUT.out _ (H.out.old HF8.out)))
      rw [decide_eq_true (show genWhole g = b.take n1 from HK4.out)] at HO
      have e0 := HB8.out.cell 0
      have e1 := HB8.out.cell 1
      have e2 := HB8.out.cell 2
      simp only [List.getElem?_toArray, List.getElem?_cons_succ, List.getElem?_cons_zero] at e0 e1 e2
      go_wp2_with fail
      refine HO.out.mono ?_
      rintro e w9 ⟨rfl, F9⟩
      have HX9 := Lib.hid (And.intro (HX8.out.1.old F9) (HX8.out.2.old F9))
      have HF9 := Lib.hid (HF8.out.trans F9)
      have HB9 := Lib.hid (HB8.out.fr F9 (fun h => h))
      clear F9 HO HX8 HF8 HB8 HV8 HC8 e0 e1 e2
      have HO := Lib.hid (genRight_any _ g w9 ⟨_, _, rfl, HX9.out.1, HX9.out.2⟩ HK3.out)
      rw [HK1.out] at HO
      have e0 := HB9.out.cell 0
      have e1 := HB9.out.cell 1
      have e2 := HB9.out.cell 2
      simp only [List.getElem?_toArray, List.getElem?_cons_succ, List.getElem?_cons_zero] at e0 e1 e2
      go_wp2_with fail
      refine HO.out.mono ?_
      rintro e w10 ⟨rfl, F10⟩
      have HX10 := Lib.hid (And.intro (HX9.out.1.old F10) (HX9.out.2.old F10))
      have HF10 := Lib.hid (HF9.out.trans F10)
      have HB10 := Lib.hid (HB9.out.fr F10 (fun h => h))
      clear F10 HO HX9 HF9 HB9 e0 e1 e2
      have HO := Lib.hid (genSame_any _ _ g g w10 ⟨_, _, rfl, HX10.out.1, HX10.out.2⟩ ⟨_, _, rfl, HX10.out.1, HX10.out.2⟩ HK3.out HK3.out (HE.out.old HF10.out))
      rw [genSame_self HK1.out] at HO
      have e0 := HB10.out.cell 0
      have e1 := HB10.out.cell 1
      have e2 := HB10.out.cell 2
      simp only [List.getElem?_toArray, List.getElem?_cons_succ, List.getElem?_cons_zero] at e0 e1 e2
      go_wp2_with fail
      refine HO.out.mono ?_
      rintro e w11 ⟨rfl, F11⟩
      have HF11 := Lib.hid (HF10.out.trans F11)
      clear F11 HO HX10 HF10 HB10 e0 e1 e2
      have HK := Lib.hid (gnKnown_any _ (HE.out.old HF11.out))
      go_wp2_with fail
      refine HK.out.mono ?_
      rintro e w12 ⟨rfl, F12⟩
      have HF12 := Lib.hid (HF11.out.trans F12)
      clear HK F12
      go_wp2_with fail
      go_ret
      exact ⟨rfl, HF12.out⟩
    · have hz0 : (x1 == 0) = false := by simpa using hz
      go_upto_region 13 with fail
      rw [← HZ1.out]
      generalize (w6.alloc (.cells #[.int .i64 g.k, .slice ab g.b.length cb, .slice an g.n.length cn] 43)) = w7 at *
      have HK := Lib.hid (gnKnown_any _ (HE.out.old HF7.out))
      go_wp2_with fail
      refine HK.out.mono ?_
      rintro e w8 ⟨rfl, F8⟩
      have HF8 := Lib.hid (HF7.out.trans F8)
      clear HK F8
      go_wp2_with fail
      go_ret
      exact ⟨rfl, HF8.out⟩
end Go.Proofs.YthamenngccaijaaGreatDoor
