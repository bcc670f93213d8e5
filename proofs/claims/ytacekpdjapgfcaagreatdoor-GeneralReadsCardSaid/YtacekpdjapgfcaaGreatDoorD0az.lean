/-
  Merged by program: XGrW.
-/
import Derived.Test.YtacekpdjapgfcaaGreatDoorD0av
import Derived.Test.YtacekpdjapgfcaaGreatDoorD0at
namespace Go.Proofs.YtacekpdjapgfcaaGreatDoor
open Go Go.RowKit Go.Q
set_option linter.unusedSimpArgs false
theorem small_of {g : Gen} (h : smallG g) : g.n.length ≤ 1000000 ∧ ∀ r ∈ g.n, r.length ≤ 1000000 := ⟨by have := h.1; omega, fun r hr => by have := h.2 r hr; omega⟩
theorem small_big {l : List Gen} (h : ∀ g ∈ l, smallG g) : ∀ g ∈ l, g.n.length ≤ 1000000 ∧ ∀ r ∈ g.n, r.length ≤ 1000000 := fun g hg => ⟨by have := (h g hg).1; omega, fun r hr => by have := (h g hg).2 r hr; omega⟩
set_option maxRecDepth 100000 in
set_option maxHeartbeats 16000000 in
theorem grWalk_any (v : Value) (b0 : List UInt8) (x : Int) (w : World) (h : Bytes w v b0) (hE : Env w) :
    Calls Tryz.prog 4 #[v, .int .i64 x] w fun e w' => e = .returned (.bool true) ∧ Fr (fun _ => False) w w' := by
  obtain ⟨a0, cap, rfl, hc, hm, -⟩ := h.form
  obtain ⟨m, hmm⟩ : ∃ m : Nat, m = min b0.length 2000 := ⟨_, rfl⟩
  have H := Lib.hid (h.cut 2000 m hmm)
  obtain ⟨b, hb⟩ : ∃ b, b = b0.take 2000 := ⟨_, rfl⟩
  rw [← hb] at H
  have hbl : b.length ≤ 10000000 := by rw [hb, List.length_take]; omega
  have hbm : b.length = m := by rw [hb, List.length_take]; omega
  have q1 : min (b0.length : Int) 2000 = (m : Int) := by omega
  have q2 : (0 : Int) ≤ (m : Int) := by omega
  have q3 : (m : Int) ≤ (cap : Int) := by omega
  have hm2 : m ≤ 2000 := by omega
  have HE := Lib.hid hE
  have HBM := Lib.hid hbm
  clear h hE hb hbm hmm hm hc
  go_enter Tryz.func4, Tryz.ntmps4
  go_upto_region 2 with fail
  go_upto_region 3 with fail
  obtain ⟨p, hk, hkX⟩ : ∃ p : Nat, wrap64 ((IntKind.u64.wrap x).tmod ((m : Int) + 1)) = (p : Int) ∧ p ≤ m := by
    have h0 : 0 ≤ IntKind.u64.wrap x := by
      simp only [IntKind.wrap, IntKind.signed, IntKind.bits]
      simp
      omega
    have h1 := Int.tmod_eq_emod_of_nonneg (b := (m : Int) + 1) h0
    have h2 := Int.emod_nonneg (IntKind.u64.wrap x) (b := (m : Int) + 1) (by omega)
    have h3 := Int.emod_lt_of_pos (IntKind.u64.wrap x) (b := (m : Int) + 1) (by omega)
    rw [h1]
    generalize IntKind.u64.wrap x % ((m : Int) + 1) = m at *
    exact ⟨m.toNat, by unfold wrap64; omega, by omega⟩
  rw [hk]
  generalize IntKind.u64.wrap x = cu at *
  obtain ⟨r1, hr1⟩ : ∃ r, r = genReadS (b.drop p) := ⟨_, rfl⟩
  obtain ⟨r2, hr2⟩ : ∃ r, r = genAllS (b.drop p) := ⟨_, rfl⟩
  obtain ⟨r3, hr3⟩ : ∃ r, r = genListS b := ⟨_, rfl⟩
  have s1 := Lib.hid (gVal_small (b.drop p))
  have s2 := Lib.hid (gaVal_small (b.drop p))
  have s3 := Lib.hid (gsVal_small b)
  obtain ⟨u2, hu2⟩ : ∃ u, u = allAt (b.drop p) := ⟨_, rfl⟩
  have t1 := allAt_ok (l := b.drop p)
  have t2 := allAt_err (l := b.drop p)
  rw [List.length_drop, HBM.out] at t1
  rw [← hr1] at s1
  rw [← hr2] at s2
  rw [← hr3] at s3
  rw [← hr2, ← hu2] at t1 t2
  have HT1 := Lib.hid t1
  have HT2 := Lib.hid t2
  have HR1 := Lib.hid hr1
  have HR2 := Lib.hid hr2
  have HR3 := Lib.hid hr3
  have HU2 := Lib.hid hu2
  obtain ⟨n1, hn1⟩ : ∃ n, n = p + atOf r1 := ⟨_, rfl⟩
  have HN1 := Lib.hid hn1
  clear hn1
  have hpb : p ≤ b.length := by rw [HBM.out]; exact hkX
  clear hk hr1 hr2 hr3 hu2 t1 t2
  go_wp2_with fail
  refine (new_any w _ b H.out (by omega)).mono ?_
  rintro e w1 ⟨rfl, C1, F1⟩
  obtain ⟨c, hcc⟩ : ∃ c, c = w.heap.size := ⟨_, rfl⟩
  have hs1 := F1.size
  have hc1 := C1.lt
  have H1 := Lib.hid (H.out.old F1)
  have HF1 := Lib.hid F1
  rw [← hcc] at C1 hc1 ⊢
  have HC1 := Lib.hid (C1.step (K' := fun k => k < c ∨ w1.heap.size ≤ k) (Fr.refl w1) (S := fun _ => False) (fun _ _ h => h.elim) (fun _ h => h))
  have HCC := Lib.hid hcc
  clear C1 F1 hcc
  go_wp2_with fail
  refine (new_any w1 _ b H1.out (by omega)).mono ?_
  rintro e w2 ⟨rfl, C2, F2⟩
  obtain ⟨d, hdd⟩ : ∃ d, d = w1.heap.size := ⟨_, rfl⟩
  have hs2 := F2.size
  have hd2 := C2.lt
  have H2 := Lib.hid (H1.out.old F2)
  have HF2 := Lib.hid (HF1.out.trans F2)
  rw [← hdd] at C2 hd2 ⊢
  have HD2 := Lib.hid (C2.step (K' := fun k => k < d ∨ w2.heap.size ≤ k) (Fr.refl w2) (S := fun _ => False) (fun _ _ h => h.elim) (fun k h => h))
  have HC2 := Lib.hid (HC1.out.old F2)
  have HDD := Lib.hid hdd
  clear C2 F2 HF1 H1 HC1 hdd
  go_wp2_with fail
  refine (new_any w2 _ b H2.out (by omega)).mono ?_
  rintro e w3 ⟨rfl, C3, F3⟩
  obtain ⟨f, hff⟩ : ∃ f, f = w2.heap.size := ⟨_, rfl⟩
  have hs3 := F3.size
  have hf3 := C3.lt
  have HF3 := Lib.hid (HF2.out.trans F3)
  rw [← hff] at C3 hf3 ⊢
  have HL3 := Lib.hid (C3.step (K' := fun k => k < f ∨ w3.heap.size ≤ k) (Fr.refl w3) (S := fun _ => False) (fun _ _ h => h.elim) (fun k h => h))
  have HC3 := Lib.hid (HC2.out.old F3)
  have HD3 := Lib.hid (HD2.out.old F3)
  have HFF := Lib.hid hff
  have HSS := Lib.hid (And.intro hs1 (And.intro hs2 (And.intro hs3 (And.intro hc1 (And.intro hd2 hf3)))))
  have hcd : c < d := by have := HDD.out; omega
  have hdf : d < f := by have := HFF.out; omega
  have hcw : w.heap.size ≤ c := by have := HCC.out; omega
  have hd1 : w1.heap.size ≤ d := by have := HDD.out; omega
  have hf1 : w1.heap.size ≤ f := by have := HFF.out; omega
  have hf2 : w2.heap.size ≤ f := by have := HFF.out; omega
  clear C3 F3 HF2 H2 HC2 HD2 hff hs1 hs2 hc1 hd2
  have HO := Lib.hid (take_ok HC3.out p (by omega))
  go_wp2_with fail
  refine HO.out.mono ?_
  rintro e w4 ⟨v4, rfl, -, C4, F4⟩
  clear HO
  rw [Nat.zero_add] at C4
  have HC4 := Lib.hid C4
  have HD4 := Lib.hid (HD3.out.step (K' := fun k => k < d ∨ w2.heap.size ≤ k) F4 (fun k _ e => .inl (by omega)) (fun k h => .inl h))
  have HL4 := Lib.hid (HL3.out.step (K' := fun k => k < f ∨ w3.heap.size ≤ k) F4 (fun k _ e => .inl (by omega)) (fun k h => .inl h))
  have HF4 := Lib.hid (HF3.out.trans' F4 (fun i hi e => by omega))
  have hs4 := F4.size
  have HO := Lib.hid (take_ok HD4.out p (by omega))
  clear C4 F4 HC3 HD3 HL3 HF3
  go_wp2_with fail
  refine HO.out.mono ?_
  rintro e w5 ⟨v5, rfl, -, C5, F5⟩
  clear HO
  rw [Nat.zero_add] at C5
  have HD5 := Lib.hid C5
  have HC5 := Lib.hid (HC4.out.step (K' := fun k => k < c ∨ w1.heap.size ≤ k) F5 (fun k _ e => .inr (by omega)) (fun k h => .inl h))
  have HL5 := Lib.hid (HL4.out.step (K' := fun k => k < f ∨ w3.heap.size ≤ k) F5 (fun k _ e => .inl (by omega)) (fun k h => .inl h))
  have HF5 := Lib.hid (HF4.out.trans' F5 (fun i hi e => by omega))
  have hs5 := F5.size
  have HO := Lib.hid (genRead_one HC5.out hbl)
  rw [← HR1.out, ← HN1.out] at HO
  clear C5 F5 HC4 HD4 HL4 HF4
  go_wp2_with fail
  refine HO.out.mono ?_
  rintro e w6 ⟨⟨ab, cb, an, cn, rfl, hx, C6⟩, F6⟩
  clear HO
  have HX6 := Lib.hid (hx.step (K' := fun k => k = d ∨ k = f) (Fr.refl w6) (S := fun _ => False) (fun _ _ h => h.elim) (fun k e => .inl (by omega)))
  have HC6 := Lib.hid C6
  have HD6 := Lib.hid (HD5.out.step (K' := fun k => k < d ∨ w2.heap.size ≤ k) F6 (fun k _ e => .inl (by omega)) (fun k h => .inl h))
  have HL6 := Lib.hid (HL5.out.step (K' := fun k => k < f ∨ w3.heap.size ≤ k) F6 (fun k _ e => .inl (by omega)) (fun k h => .inl h))
  have HF6 := Lib.hid (HF5.out.trans' F6 (fun i hi e => by omega))
  have hs6 := F6.size
  clear hx C6 F6 HC5 HD5 HL5 HF5
  obtain ⟨g, hg⟩ : ∃ g, g = gVal r1 := ⟨_, rfl⟩
  rw [← hg] at HX6 s1 ⊢
  have HG := Lib.hid hg
  obtain ⟨z1, hz1⟩ : ∃ z, z = w6.heap.size := ⟨_, rfl⟩
  have F7 : Fr (fun _ => False) w6 (w6.alloc (.cells #[.int .i64 g.k, .slice ab g.b.length cb, .slice an g.n.length cn] 42)) := (Fr.refl w6).alloc _
  have B7 := Blk.new w6 42 #[.int .i64 g.k, .slice ab g.b.length cb, .slice an g.n.length cn]
  rw [← hz1] at B7
  have HX7 := Lib.hid (HX6.out.old F7)
  have HC7 := Lib.hid (HC6.out.old F7)
  have HD7 := Lib.hid (HD6.out.old F7)
  have HL7 := Lib.hid (HL6.out.old F7)
  have HF7 := Lib.hid (HF6.out.trans F7)
  have hz1f : f < z1 := by omega
  have hs7 := F7.size
  have HZ1 := Lib.hid hz1
  clear hg hz1 F7 HX6 HC6 HD6 HL6 HF6
  go_upto_region 7 with fail
  rw [← HZ1.out]
  generalize (w6.alloc (.cells #[.int .i64 g.k, .slice ab g.b.length cb, .slice an g.n.length cn] 42)) = w7 at *
  have HB7 := Lib.hid B7
  have hz1s := B7.lt
  have HV7 := Lib.hid (show Kept (fun W => Bytes W (.slice a0 m cap) b) (fun k => k = d ∨ k = f) w7 from fun W f' => H.out.old (HF7.out.trans' f' (fun i hi e => by omega)))
  have HO := Lib.hid (r15Read_one _ b p (fun k => k = d ∨ k = f) w7 HV7.out (fun k e => by omega) hpb hbl)
  rw [← HR1.out, ← HG.out, ← HN1.out] at HO
  clear B7 HV7
  go_wp2_with fail
  refine HO.out.mono ?_
  rintro e w8 ⟨⟨ab2, cb2, an2, cn2, rfl, hy⟩, F8⟩
  clear HO
  obtain ⟨z2, hz2⟩ : ∃ z, z = w8.heap.size := ⟨_, rfl⟩
  have hs8 := F8.size
  have F9 : Fr (fun _ => False) w8 (w8.alloc (.cells #[.int .i64 g.k, .slice ab2 g.b.length cb2, .slice an2 g.n.length cn2] 46)) := (Fr.refl w8).alloc _
  have B9 := Blk.new w8 46 #[.int .i64 g.k, .slice ab2 g.b.length cb2, .slice an2 g.n.length cn2]
  rw [← hz2] at B9
  have F89 := F8.trans F9
  have HX9 := Lib.hid (HX7.out.old F89)
  have HY9 := Lib.hid (hy.old F9)
  have HC9 := Lib.hid (HC7.out.old F89)
  have HD9 := Lib.hid (HD7.out.old F89)
  have HL9 := Lib.hid (HL7.out.old F89)
  have HF9 := Lib.hid (HF7.out.trans F89)
  have HB9 := Lib.hid (HB7.out.fr F89 (fun h => h))
  have hz2f : z1 < z2 := by omega
  have hs9 := F9.size
  have HZ2 := Lib.hid hz2
  clear hz2 F8 F9 F89 hy HX7 HC7 HD7 HL7 HF7 HB7
  go_upto_region 8 with fail
  rw [← HZ2.out]
  generalize (w8.alloc (.cells #[.int .i64 g.k, .slice ab2 g.b.length cb2, .slice an2 g.n.length cn2] 46)) = w9 at *
  have HE9 := Lib.hid B9
  have hz2s := B9.lt
  have HO := Lib.hid (readAll_one HD9.out hbl)
  rw [← HR2.out, ← HU2.out] at HO
  clear B9
  go_wp2_with fail
  refine HO.out.mono ?_
  rintro e w10 ⟨⟨ag, cg, rfl, hx, D10⟩, F10⟩
  clear HO
  have HP10 := Lib.hid (hx.step (K' := fun k => k = f) (Fr.refl w10) (S := fun _ => False) (fun _ _ h => h.elim) (fun k e => .inl (by omega)))
  have HX10 := Lib.hid (HX9.out.step (K' := fun k => k = f) F10 (fun k _ e => .inl e) (fun k e => .inl (.inr e)))
  have HY10 := Lib.hid (HY9.out.step (K' := fun k => k = f) F10 (fun k _ e => .inl e) (fun k e => .inl (.inr e)))
  have HD10 := Lib.hid D10
  have HC10 := Lib.hid (HC9.out.step (K' := fun k => k < c ∨ w1.heap.size ≤ k) F10 (fun k _ e => .inr (by omega)) (fun k h => .inl h))
  have HL10 := Lib.hid (HL9.out.step (K' := fun k => k < f ∨ w3.heap.size ≤ k) F10 (fun k _ e => .inl (by omega)) (fun k h => .inl h))
  have HF10 := Lib.hid (HF9.out.trans' F10 (fun i hi e => by omega))
  have HB10 := Lib.hid (HB9.out.fr F10 (fun e => by omega))
  have HE10 := Lib.hid (HE9.out.fr F10 (fun e => by omega))
  have hs10 := F10.size
  have HV10 := Lib.hid (show Kept (fun W => Bytes W (.slice a0 m cap) b) (fun k => k = f) w10 from fun W f' => H.out.old (HF10.out.trans' f' (fun i hi e => by omega)))
  have HO := Lib.hid (r15ReadAll_one _ b p (fun k => k = f) w10 HV10.out (fun k e => by omega) hpb hbl)
  rw [← HR2.out] at HO
  clear hx D10 F10 HV10 HX9 HY9 HC9 HD9 HL9 HF9 HB9 HE9
  go_wp2_with fail
  refine HO.out.mono ?_
  rintro e w11 ⟨⟨ar, cr, rfl, hx⟩, F11⟩
  clear HO
  have HQ11 := Lib.hid hx
  have HP11 := Lib.hid (HP10.out.old F11)
  have HX11 := Lib.hid (HX10.out.old F11)
  have HY11 := Lib.hid (HY10.out.old F11)
  have HC11 := Lib.hid (HC10.out.old F11)
  have HD11 := Lib.hid (HD10.out.old F11)
  have HL11 := Lib.hid (HL10.out.old F11)
  have HF11 := Lib.hid (HF10.out.trans F11)
  have HB11 := Lib.hid (HB10.out.fr F11 (fun h => h))
  have HE11 := Lib.hid (HE10.out.fr F11 (fun h => h))
  have hs11 := F11.size
  have HO := Lib.hid (readList_one HL11.out hbl)
  rw [List.drop_zero, ← HR3.out, Nat.zero_add] at HO
  clear hx F11 HP10 HX10 HY10 HC10 HD10 HL10 HF10 HB10 HE10
  go_wp2_with fail
  refine HO.out.mono ?_
  rintro e w12 ⟨⟨al, cl, rfl, hx, L12⟩, F12⟩
  clear HO
  have HU12 := Lib.hid hx.now
  have HQ12 := Lib.hid (HQ11.out w12 F12)
  have HP12 := Lib.hid (HP11.out w12 F12)
  have HX12 := Lib.hid (HX11.out w12 F12)
  have HY12 := Lib.hid (HY11.out w12 F12)
  have HL12 := Lib.hid L12
  have HC12 := Lib.hid (HC11.out.step (K' := fun k => k < c ∨ w1.heap.size ≤ k) F12 (fun k _ e => .inr (by omega)) (fun k h => .inl h))
  have HD12 := Lib.hid (HD11.out.step (K' := fun k => k < d ∨ w2.heap.size ≤ k) F12 (fun k _ e => .inr (by omega)) (fun k h => .inl h))
  have HF12 := Lib.hid (HF11.out.trans' F12 (fun i hi e => by omega))
  have HB12 := Lib.hid (HB11.out.fr F12 (fun e => by omega))
  have HE12 := Lib.hid (HE11.out.fr F12 (fun e => by omega))
  have hs12 := F12.size
  have HO := Lib.hid (r15ReadList_one _ b (fun _ => False) w12 (fun W f' => H.out.old (HF12.out.trans f')) (fun k e => e.elim) hbl)
  rw [← HR3.out] at HO
  clear hx L12 F12 HP11 HQ11 HX11 HY11 HC11 HD11 HL11 HF11 HB11 HE11
  go_wp2_with fail
  refine HO.out.mono ?_
  rintro e w13 ⟨⟨au, cu3, rfl, hx⟩, F13⟩
  clear HO
  have HT13 := Lib.hid hx.now
  have HU13 := Lib.hid (HU12.out.old F13)
  have HQ13 := Lib.hid (HQ12.out.old F13)
  have HP13 := Lib.hid (HP12.out.old F13)
  have HX13 := Lib.hid (And.intro (HX12.out.1.old F13) (HX12.out.2.old F13))
  have HY13 := Lib.hid (And.intro (HY12.out.1.old F13) (HY12.out.2.old F13))
  have HC13 := Lib.hid (HC12.out.old F13)
  have HD13 := Lib.hid (HD12.out.old F13)
  have HL13 := Lib.hid (HL12.out.old F13)
  have HF13 := Lib.hid (HF12.out.trans F13)
  have HB13 := Lib.hid (HB12.out.fr F13 (fun h => h))
  have HE13 := Lib.hid (HE12.out.fr F13 (fun h => h))
  have hs13 := F13.size
  clear hx F13 HP12 HQ12 HX12 HY12 HC12 HD12 HL12 HF12 HB12 HE12 HU12 hs3 hs4 hs5 hs6 hs7 hs8 hs9 hs10 hs11 hs12 hs13
  have FD : Fr (fun _ => False) w13 w13.drew := (Fr.refl w13).drew
  have HX := Lib.hid (And.intro (HX13.out.1.old FD) (HX13.out.2.old FD))
  have HY := Lib.hid (And.intro (HY13.out.1.old FD) (HY13.out.2.old FD))
  have HC := Lib.hid (HC13.out.old FD)
  have HD := Lib.hid (HD13.out.old FD)
  have HL := Lib.hid (HL13.out.old FD)
  have HP := Lib.hid (HP13.out.old FD)
  have HQ := Lib.hid (HQ13.out.old FD)
  have HT := Lib.hid (HT13.out.old FD)
  have HU := Lib.hid (HU13.out.old FD)
  have B := HB13.out.fr FD (fun h => h)
  have D := HE13.out.fr FD (fun h => h)
  have G := Lib.hid (HF13.out.trans FD)
  clear FD HX13 HY13 HC13 HD13 HL13 HP13 HQ13 HT13 HU13 HB13 HE13 HF13
  obtain ⟨x1, hx1⟩ : ∃ x, errOf r1 = x := ⟨_, rfl⟩
  obtain ⟨x2, hx2⟩ : ∃ x, errOf r2 = x := ⟨_, rfl⟩
  obtain ⟨x3, hx3⟩ : ∃ x, errOf r3 = x := ⟨_, rfl⟩
  rw [hx2] at HT1 HT2
  rw [hx1, hx2, hx3]
  clear hx1 hx2 hx3
  go_upto_region 13 with fail
  have hcase : x2 = 0 ∨ x2 ≠ 0 := Classical.em _
  rcases hcase with hz | hz
  case' inl =>
    obtain ⟨n2, hn2⟩ : ∃ n : Nat, n = m := ⟨_, rfl⟩
    have hn3 : p + u2 = n2 := by rw [HT1.out hz]; omega
    have hz0 : (x2 == 0) = true := by rw [hz]; rfl
    have hbz : b.length = n2 := by rw [HBM.out, hn2]
  case' inr =>
    obtain ⟨n2, hn2⟩ : ∃ n : Nat, n = p := ⟨_, rfl⟩
    have hn3 : p + u2 = n2 := by rw [HT2.out hz]; omega
    have hz0 : (x2 == 0) = false := by simpa using hz
  all_goals
    rw [hn3] at HD
    clear hn3 hz
    go_upto_region 15 with fail
    rw [← hn2]
    clear hn2
  all_goals
    try clear HT1
    try clear HT2
    try clear HR1
    try clear HR2
    try clear HR3
    try clear HU2
    try clear HN1
    try clear HCC
    try clear HDD
    try clear HFF
    try clear HSS
    try clear HG
    try clear HZ1
    try clear HZ2
    try clear HBM
    try clear H
    try clear hbl
    try clear hpb
    try clear hkX
    try clear q1
    try clear q2
    try clear q3
    try clear hm2
    try clear hcd
    try clear hdf
    try clear hcw
    try clear hd1
    try clear hf1
    try clear hf2
    try clear hf3
    try clear hz1f
    try clear hz1s
    try clear hz2f
    try clear hz2s
    try clear hz0
    try clear hbz
  all_goals
    go_region_held3 (fun w' => (∀ j, w'.cell? ⟨z1, j, none⟩ = (#[.int .i64 g.k, .slice ab g.b.length cb, .slice an g.n.length cn] : Array Value)[j]?) ∧ ∀ j, w'.cell? ⟨z2, j, none⟩ = (#[.int .i64 g.k, .slice ab2 g.b.length cb2, .slice an2 g.n.length cn2] : Array Value)[j]?) (first | exact ⟨B.cell, D.cell⟩ | exact ⟨(B.alloc _).cell, (D.alloc _).cell⟩ | exact ⟨((B.alloc _).alloc _).cell, ((D.alloc _).alloc _).cell⟩) (first
      | (go_at_call 25; refine (gnKnown_any _ (HE.out.old G.out)).mono ?_; rintro e w' ⟨rfl, F⟩; replace HX := Lib.hid (And.intro (HX.out.1.old F) (HX.out.2.old F)); replace HY := Lib.hid (And.intro (HY.out.1.old F) (HY.out.2.old F)); (try replace HC := Lib.hid (HC.out.old F)); (try replace HD := Lib.hid (HD.out.old F)); (try replace HL := Lib.hid (HL.out.old F)); (try replace HP := Lib.hid (HP.out.old F)); (try replace HQ := Lib.hid (HQ.out.old F)); (try replace HT := Lib.hid (HT.out.old F)); (try replace HU := Lib.hid (HU.out.old F)); replace B := B.fr F (fun h => h); replace D := D.fr F (fun h => h); replace G := Lib.hid (G.out.trans F); clear F)
      | (go_at_call 27; refine (lawGOf_any _ g _ _ ⟨_, _, rfl, HX.out.1, HX.out.2⟩ (Fr.refl _) (by have := s1.out.1; omega) (fun r hr => by have := s1.out.2 r hr; omega)).mono ?_; rintro e w' ⟨⟨a5, c5, a6, c6, rfl, hq⟩, F⟩; replace HX := Lib.hid (And.intro (HX.out.1.old F) (HX.out.2.old F)); replace HY := Lib.hid (And.intro (HY.out.1.old F) (HY.out.2.old F)); (try replace HC := Lib.hid (HC.out.old F)); (try replace HD := Lib.hid (HD.out.old F)); (try replace HL := Lib.hid (HL.out.old F)); (try replace HP := Lib.hid (HP.out.old F)); (try replace HQ := Lib.hid (HQ.out.old F)); (try replace HT := Lib.hid (HT.out.old F)); (try replace HU := Lib.hid (HU.out.old F)); replace B := B.fr F (fun h => h); replace D := D.fr F (fun h => h); replace G := Lib.hid (G.out.trans F); clear F; have HOF := Lib.hid hq.now; clear hq; have HLK := Lib.hid (like_two _ g _ _ _ _ HOF.out.1 HOF.out.2 HY.out.1 HY.out.2); have HLO := Lib.hid (like_owt _ g _ _ _ _ HOF.out.1 HOF.out.2 HY.out.1 HY.out.2); clear HOF)
      | (go_at_call 27; refine (of_late _ _ _ _ g ⟨_, _, rfl, HX.out.1, HX.out.2⟩ (small_of s1.out)).mono ?_; rintro e w' ⟨⟨a5, c5, a6, c6, rfl, hq⟩, hbo, F⟩; replace HX := Lib.hid (And.intro (HX.out.1.old F) (HX.out.2.old F)); replace HY := Lib.hid (And.intro (HY.out.1.old F) (HY.out.2.old F)); (try replace HC := Lib.hid (HC.out.old F)); (try replace HD := Lib.hid (HD.out.old F)); (try replace HL := Lib.hid (HL.out.old F)); (try replace HP := Lib.hid (HP.out.old F)); (try replace HQ := Lib.hid (HQ.out.old F)); (try replace HT := Lib.hid (HT.out.old F)); (try replace HU := Lib.hid (HU.out.old F)); replace B := B.fr F (fun h => h); replace D := D.fr F (fun h => h); replace G := Lib.hid (G.out.trans F); clear F; have HLK := Lib.hid (like_late _ _ g _ _ _ _ hbo hq.1 hq.2 HY.out.1 HY.out.2); have HLO := Lib.hid (True.intro); clear hq hbo)
      | (go_at_call 26; with_reducible refine HLK.out.mono ?_; rintro e w' ⟨rfl, F⟩; replace HX := Lib.hid (And.intro (HX.out.1.old F) (HX.out.2.old F)); replace HY := Lib.hid (And.intro (HY.out.1.old F) (HY.out.2.old F)); (try replace HC := Lib.hid (HC.out.old F)); (try replace HD := Lib.hid (HD.out.old F)); (try replace HL := Lib.hid (HL.out.old F)); (try replace HP := Lib.hid (HP.out.old F)); (try replace HQ := Lib.hid (HQ.out.old F)); (try replace HT := Lib.hid (HT.out.old F)); (try replace HU := Lib.hid (HU.out.old F)); replace B := B.fr F (fun h => h); replace D := D.fr F (fun h => h); replace G := Lib.hid (G.out.trans F); clear F HLK HLO)
      | (go_at_call 26; with_reducible refine HLO.out.mono ?_; rintro e w' ⟨rfl, F⟩; replace HX := Lib.hid (And.intro (HX.out.1.old F) (HX.out.2.old F)); replace HY := Lib.hid (And.intro (HY.out.1.old F) (HY.out.2.old F)); (try replace HC := Lib.hid (HC.out.old F)); (try replace HD := Lib.hid (HD.out.old F)); (try replace HL := Lib.hid (HL.out.old F)); (try replace HP := Lib.hid (HP.out.old F)); (try replace HQ := Lib.hid (HQ.out.old F)); (try replace HT := Lib.hid (HT.out.old F)); (try replace HU := Lib.hid (HU.out.old F)); replace B := B.fr F (fun h => h); replace D := D.fr F (fun h => h); replace G := Lib.hid (G.out.trans F); clear F HLK HLO)
      | (go_at_call 28; refine (at_any HC.out).mono ?_; rintro e w' ⟨rfl, rfl⟩; clear HC)
      | (go_at_call 28; refine (at_any HD.out).mono ?_; rintro e w' ⟨rfl, rfl⟩; clear HD)
      | (go_at_call 28; refine (at_any HL.out).mono ?_; rintro e w' ⟨rfl, rfl⟩; clear HL)
      | (go_at_call 29; refine (lawAll_any _ _ _ HP.out (small_big s2.out.2) (by have := s2.out.1; omega)).mono ?_; rintro e w' ⟨⟨a7, c7, rfl, hq⟩, F⟩; replace HX := Lib.hid (And.intro (HX.out.1.old F) (HX.out.2.old F)); replace HY := Lib.hid (And.intro (HY.out.1.old F) (HY.out.2.old F)); (try replace HC := Lib.hid (HC.out.old F)); (try replace HD := Lib.hid (HD.out.old F)); (try replace HL := Lib.hid (HL.out.old F)); (try replace HP := Lib.hid (HP.out.old F)); (try replace HQ := Lib.hid (HQ.out.old F)); (try replace HT := Lib.hid (HT.out.old F)); (try replace HU := Lib.hid (HU.out.old F)); replace B := B.fr F (fun h => h); replace D := D.fr F (fun h => h); replace G := Lib.hid (G.out.trans F); clear F; have HM := Lib.hid hq; clear hq HP)
      | (go_at_call 26; refine (gens_self _ _ _ _ HM.out HQ.out).mono ?_; rintro e w' ⟨rfl, F⟩; clear HM HQ; replace HX := Lib.hid (And.intro (HX.out.1.old F) (HX.out.2.old F)); replace HY := Lib.hid (And.intro (HY.out.1.old F) (HY.out.2.old F)); (try replace HC := Lib.hid (HC.out.old F)); (try replace HD := Lib.hid (HD.out.old F)); (try replace HL := Lib.hid (HL.out.old F)); (try replace HP := Lib.hid (HP.out.old F)); (try replace HQ := Lib.hid (HQ.out.old F)); (try replace HT := Lib.hid (HT.out.old F)); (try replace HU := Lib.hid (HU.out.old F)); replace B := B.fr F (fun h => h); replace D := D.fr F (fun h => h); replace G := Lib.hid (G.out.trans F); clear F)
      | (go_at_call 29; refine (lawAll_any _ _ _ HU.out (small_big s3.out.2) (by have := s3.out.1; omega)).mono ?_; rintro e w' ⟨⟨a8, c8, rfl, hq⟩, F⟩; replace HX := Lib.hid (And.intro (HX.out.1.old F) (HX.out.2.old F)); replace HY := Lib.hid (And.intro (HY.out.1.old F) (HY.out.2.old F)); (try replace HC := Lib.hid (HC.out.old F)); (try replace HD := Lib.hid (HD.out.old F)); (try replace HL := Lib.hid (HL.out.old F)); (try replace HP := Lib.hid (HP.out.old F)); (try replace HQ := Lib.hid (HQ.out.old F)); (try replace HT := Lib.hid (HT.out.old F)); (try replace HU := Lib.hid (HU.out.old F)); replace B := B.fr F (fun h => h); replace D := D.fr F (fun h => h); replace G := Lib.hid (G.out.trans F); clear F; have HN := Lib.hid hq; clear hq HU)
      | (go_at_call 26; refine (gens_self _ _ _ _ HN.out HT.out).mono ?_; rintro e w' ⟨rfl, F⟩; replace HX := Lib.hid (And.intro (HX.out.1.old F) (HX.out.2.old F)); replace HY := Lib.hid (And.intro (HY.out.1.old F) (HY.out.2.old F)); (try replace HC := Lib.hid (HC.out.old F)); (try replace HD := Lib.hid (HD.out.old F)); (try replace HL := Lib.hid (HL.out.old F)); (try replace HP := Lib.hid (HP.out.old F)); (try replace HQ := Lib.hid (HQ.out.old F)); (try replace HT := Lib.hid (HT.out.old F)); (try replace HU := Lib.hid (HU.out.old F)); replace B := B.fr F (fun h => h); replace D := D.fr F (fun h => h); replace G := Lib.hid (G.out.trans F); clear F))
  all_goals
    go_wp2_with fail
    go_ret
    exact ⟨rfl, G.out⟩
end Go.Proofs.YtacekpdjapgfcaaGreatDoor
