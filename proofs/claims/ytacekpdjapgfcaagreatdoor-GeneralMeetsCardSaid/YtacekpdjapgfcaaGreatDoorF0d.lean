/-
  Merged by program: XNSub XNOpen XR02O XNOidR XR04P XR15 XNOidQ XNAttrR XNRdnR XNNameR XR14R XR14P XR14N XGenB XGenR XNkLaw XNkKnown XNkWalk1 XNbW XGenRd XR15R XGenRl XR15L XGenTo XGenF XGenFe XGenW XR15W XGenWa XR15K XNOut XNSmall XGrOut XGlLaw XHostS XNStrS XGenH XGenK.
-/
import Derived.Test.YtacekpdjapgfcaaGreatDoorF0a
import Derived.Test.YtacekpdjapgfcaaGreatDoorF0b
import Derived.Test.YtacekpdjapgfcaaGreatDoorF0c
import Derived.Deep.CutBlock
import Derived.Deep.CutRange
import Derived.Deep.Cut
import Derived.Laws.Strings3
import Derived.Deep.Slices
namespace Go.Proofs.YtacekpdjapgfcaaGreatDoor
open Go Go.RowKit Go.Q
set_option linter.unusedSimpArgs false
def NewCur (w w' : World) (g : Nat) (l : List UInt8) : Prop := w.heap.size ≤ g ∧ CurAt w' g (fun k => k < w.heap.size) l 0
set_option maxRecDepth 20000 in
theorem sub_ok {w : World} {c : Nat} {K : Nat → Prop} {bs : List UInt8} {i : Nat} (h : CurAt w c K bs i) (n : Nat) (hn : n ≤ bs.length - i) :
    Calls Tryz.prog 127 #[pt c, .int .i64 n] w fun e w' => ∃ g, e = .returned (.tuple #[pt g, .int .i64 0]) ∧ NewCur w w' g ((bs.drop i).take n) ∧ CurAt w' c K bs (i + n) ∧ Fr (fun k => k = c) w w' := by
  have hsm := h.small
  have hle := h.le
  have hcl := h.lt
  obtain ⟨l, hl⟩ : ∃ l, l = (bs.drop i).take n := ⟨_, rfl⟩
  have hll : l.length = n := by rw [hl, List.length_take, List.length_drop]; omega
  have HT := Lib.hid (take_ok h n hn)
  rw [← hl] at HT ⊢
  have HLL := Lib.hid hll
  clear hl hll h
  go_enter Tryz.func127, Tryz.ntmps127
  go_wp2_with fail
  refine HT.out.mono ?_
  rintro e w1 ⟨v, rfl, ho, C1, F1⟩
  have hv := Vals.of_own ho
  have HV := Lib.hid hv
  obtain ⟨a, m, cap, rfl, rfl⟩ := own_shape ho
  have HC1 := Lib.hid C1
  have HF1 := Lib.hid F1
  have hs1 := F1.size
  clear HT ho hv C1 F1
  go_wp2_with fail
  have F2 : Fr (fun _ => False) w1 (w1.alloc (.cells #[.slice a m cap, .int .i64 0] 116)) := (Fr.refl w1).alloc _
  refine bodyPost_ret (v := .tuple #[pt w1.heap.size, .int .i64 0]) (by simp [results, Tryz.results127, go_sem]) rfl ⟨_, rfl, ⟨hs1, _, Blk.new w1 _ _, HV.out.1.old F2, Nat.zero_le _, by rw [HLL.out]; omega, by omega, fun _ k hk e => ?_⟩, HC1.out.old F2, HF1.out.trans (F2.mono (fun _ _ h => h.elim))⟩
  have := HV.out.2 k hk
  omega
theorem sub_end {w : World} {c : Nat} {K : Nat → Prop} {bs : List UInt8} {i : Nat} (h : CurAt w c K bs i) (n : Nat) (hn : bs.length - i < n) :
    Calls Tryz.prog 127 #[pt c, .int .i64 n] w fun e w' => e = .returned (.tuple #[.pointer none, .int .i64 3]) ∧ Fr (fun _ => False) w w' := by
  have HT := Lib.hid (take_end h n hn)
  clear h
  go_enter Tryz.func127, Tryz.ntmps127
  go_wp2_with fail
  refine HT.out.mono ?_
  rintro e w1 ⟨rfl, F1⟩
  go_wp2_with fail
  exact bodyPost_ret (v := .tuple #[.pointer none, .int .i64 3]) (by simp [results, Tryz.results127, go_sem]) rfl ⟨rfl, F1⟩
theorem NewCur.up {w w1 w' : World} {g : Nat} {l : List UInt8} (h : NewCur w1 w' g l) (hs : w.heap.size ≤ w1.heap.size) : NewCur w w' g l :=
  ⟨Nat.le_trans hs h.1, h.2.step (Fr.refl w') (S := fun _ => False) (fun _ _ h => h.elim) (fun _ hk => .inl (Nat.lt_of_lt_of_le hk hs))⟩
set_option maxRecDepth 20000 in
theorem rest_any {w : World} {c : Nat} {K : Nat → Prop} {bs : List UInt8} {i : Nat} (h : CurAt w c K bs i) :
    Calls Tryz.prog 276 #[pt c] w fun e w' => ∃ v, e = .returned v ∧ w'.ownsRow w.heap.size 5 1 v (bs.length - i) (Lib.byteCells (bs.drop i)) ∧ CurAt w' c K bs bs.length ∧ Fr (fun k => k = c) w w' := by
  have hsm := h.small
  have hle := h.le
  have H := Lib.hid h
  have hcut := Lib.hid (fun w' (C : CurAt w' c K bs i) => cut_any C i (bs.length - i) (by omega))
  have e1 : (i : Int) + ((bs.length - i : Nat) : Int) = (bs.length : Int) := by omega
  rw [e1] at hcut
  have e2 : (bs.drop i).take (bs.length - i) = bs.drop i := List.take_of_length_le (by rw [List.length_drop]; omega)
  rw [e2] at hcut
  clear h e1 e2
  go_enter Tryz.func276, Tryz.ntmps276
  go_upto_region 3 with fail
  have C1 := H.out.old (Fr.refl w).drew
  have HC := Lib.hid C1
  obtain ⟨sl, B, -⟩ := C1
  have F2 : Fr (fun _ => False) w w.drew := (Fr.refl w).drew
  have hcl := H.out.lt
  clear H
  go_region_held3 (fun w' => ∀ j, w'.cell? ⟨c, j, none⟩ = (#[sl, .int .i64 i] : Array Value)[j]?) (exact B.cell) (first
    | (go_at_call 111; refine (size_any HC.out).mono ?_; rintro e w' ⟨rfl, rfl⟩)
    | (go_at_call 70; refine (hcut.out _ HC.out).mono ?_; rintro e w' ⟨v, rfl, ho, F⟩; replace B := B.fr F (fun h => h); have C3 := HC.out.old F))
  have HO := Lib.hid ho
  have HC3 := Lib.hid C3
  have e1 := B.cell 1
  have f1 := B.frozen 1
  simp at e1
  have hv := Lib.hid (Vals.of_own ho)
  clear ho C3
  go_wp2_with fail
  refine (size_any HC3.out).mono ?_
  rintro e w4 ⟨rfl, rfl⟩
  go_wp2_with fail
  obtain ⟨C4, F4⟩ := HC3.out.set bs.length (Nat.le_refl _)
  have hne : ∀ k, v.ownBlock = some k → k ≠ c := fun k hk e => by
    have h1 := (hv.out.2 k hk).1
    have h2 := HC.out.lt
    omega
  go_ret
  exact ⟨v, rfl, own_le (ownsRow_fr HO.out F4 (fun k hk e => hne k hk e)) F2.size, C4, ((F2.trans F).mono (fun _ _ h => h.elim)).trans F4⟩
end Go.Proofs.YtacekpdjapgfcaaGreatDoor

namespace Go.Q
open Go Go.RowKit
theorem openS_err1 {T : Tag} {l : List UInt8} {x : Int} (h : readS l = .error x) : openS T l = .error x := by unfold openS; rw [h]
theorem openS_tag {T u : Tag} {l : List UInt8} {n k : Nat} (h : readS l = .ok (u, n, k)) (hu : u ≠ T) : openS T l = .error 4 := by unfold openS; rw [h]; exact if_pos hu
theorem openS_end {T : Tag} {l : List UInt8} {n k : Nat} (h : readS l = .ok (T, n, k)) (hn : l.length - k < n) : openS T l = .error 3 := by unfold openS; rw [h]; simp only; rw [if_neg (by simp), if_pos hn]
theorem openS_ok {T : Tag} {l : List UInt8} {n k : Nat} (h : readS l = .ok (T, n, k)) (hn : ¬ l.length - k < n) : openS T l = .ok ((l.drop k).take n, k + n) := by unfold openS; rw [h]; simp only; rw [if_neg (by simp), if_neg hn]
theorem openS_nz {T : Tag} {l : List UInt8} {x : Int} (h : openS T l = .error x) : x ≠ 0 := by
  unfold openS at h
  split at h
  · rename_i hr
    cases h
    exact Go.Proofs.YtacekpdjapgfcaaGreatDoor.readS_err hr
  · split at h
    · cases h; decide
    · split at h
      · cases h; decide
      · cases h
end Go.Q
namespace Go.Proofs.YtacekpdjapgfcaaGreatDoor
open Go Go.RowKit Go.Q
set_option linter.unusedSimpArgs false
def OpenOut1 (w w' : World) (c : Nat) (K : Nat → Prop) (bs : List UInt8) (p : Nat) (r : Except Int (List UInt8 × Nat)) (e : Ending) : Prop :=
  match r with
  | .ok (y, k) => ∃ g, e = .returned (.tuple #[pt g, .int .i64 0]) ∧ NewCur w w' g y ∧ CurAt w' c K bs (p + k)
  | .error x => e = .returned (.tuple #[.pointer none, .int .i64 x]) ∧ ∃ q, p ≤ q ∧ CurAt w' c K bs q
set_option maxRecDepth 20000 in
set_option maxHeartbeats 2000000 in
theorem open1_any {w : World} {c : Nat} {K : Nat → Prop} {bs : List UInt8} {p : Nat} (h : CurAt w c K bs p) (T : Tag) (bx bt : Nat) (B : Blk w bx 38 #[pt c]) (BT : Blk w bt 97 #[.int .i64 T.cls, .int .i64 T.num, .bool T.made]) (hbx : bx ≠ c) (hbt : bt ≠ c) :
    Calls Tryz.prog 125 #[pt bx, pt bt] w fun e w' => OpenOut1 w w' c K bs p (openS T (bs.drop p)) e ∧ Fr (fun k => k = c) w w' := by
  have hle := h.le
  have HR := Lib.hid (read_any h)
  have HB := Lib.hid B
  have HBT := Lib.hid BT
  have e0 := B.cell 0
  simp at e0
  clear h B BT
  go_enter Tryz.func125, Tryz.ntmps125
  go_wp2_with fail
  refine HR.out.mono ?_
  rintro e w1 ⟨⟨⟨tc, tn, tm⟩, n, x, rfl, ht⟩, C1, F1⟩
  rw [show frontV ⟨tc, tn, tm⟩ n = .agg #[.int .i64 tc, .int .i64 tn, .bool tm, .int .i64 n] from rfl]
  have HT := Lib.hid ht
  go_upto_region 2 with fail
  have F2 : Fr (fun _ => False) w1 (w1.alloc (.cells #[.int .i64 tc, .int .i64 tn, .bool tm, .int .i64 n] 188)) := (Fr.refl w1).alloc _
  have BD := Blk.new w1 188 #[.int .i64 tc, .int .i64 tn, .bool tm, .int .i64 n]
  have HC2 := Lib.hid (C1.old F2)
  have G2 := F1.trans (F2.mono (T := fun k => k = c) (fun _ _ h => h.elim))
  have HG2 := Lib.hid G2
  have SB := ((HB.out.fr F1 hbx).fr F2 (fun h => h)).cell 0
  have ST := ((HBT.out.fr F1 hbt).fr F2 (fun h => h)).cell
  have SD := BD.cell
  simp at SB
  obtain ⟨d, hd⟩ : ∃ d, d = w1.heap.size := ⟨_, rfl⟩
  rw [← hd] at BD SD ⊢
  clear hd C1 F1 F2 ht HR e0
  generalize (w1.alloc (.cells #[.int .i64 tc, .int .i64 tn, .bool tm, .int .i64 n] 188)) = w2 at *
  by_cases hx : x = 0
  · subst hx
    obtain ⟨u, hu⟩ : ∃ u : Tag, u = ⟨tc, tn, tm⟩ := ⟨_, rfl⟩
    have hok : ∃ k, readS (bs.drop p) = .ok (u, n, k) := by
      have ht := HT.out
      cases hr : readS (bs.drop p) with
      | error e => rw [hr] at ht; exact absurd ht.symm (readS_err hr)
      | ok vk => obtain ⟨v, m, k⟩ := vk; rw [hr] at ht; exact ⟨k, by rw [hu, ht.1, ht.2.1]⟩
    obtain ⟨k, hk⟩ := hok
    have hkl := (readS_le hk).1
    have hc := HC2.out
    rw [hk] at hc
    have HC := Lib.hid hc
    have HK := Lib.hid hk
    have HU := Lib.hid hu
    rw [List.length_drop] at hkl
    have bad : u ≠ T → OpenOut1 w w2 c K bs p (openS T (bs.drop p)) (.returned (.tuple #[.pointer none, .int .i64 4])) := fun hne => by
      rw [openS_tag HK.out hne]
      exact ⟨rfl, p + k, by omega, HC.out⟩
    have HBAD := Lib.hid bad
    clear hk hc hu bad HC2
    go_wp2_with fail
    rotate_left
    iterate 3
      refine bodyPost_ret (v := .tuple #[.pointer none, .int .i64 4]) (by simp [results, Tryz.results125, go_sem]) rfl ⟨HBAD.out fun e => ?_, HG2.out⟩
      have e2 := HU.out
      rw [e] at e2
      subst e2
      first | exact absurd rfl ‹¬ tm = _› | exact absurd rfl ‹¬ tn = _› | exact absurd rfl ‹¬ tc = _›
    have hT : u = T := by
      rw [HU.out]
      show (⟨tc, tn, tm⟩ : Tag) = ⟨T.cls, T.num, T.made⟩
      rw [‹tc = T.cls›, ‹tn = T.num›, ‹tm = T.made›]
    rw [hT] at HK
    clear hT HU HBAD
    by_cases hn : n ≤ bs.length - (p + k)
    · have HO := Lib.hid (openS_ok (T := T) HK.out (by rw [List.length_drop]; omega))
      have hS := sub_ok HC.out n hn
      rw [show (bs.drop (posR p (.ok (u, n, k)))).take n = ((bs.drop p).drop k).take n from by rw [List.drop_drop]; rfl] at hS
      refine hS.mono ?_
      rintro e w3 ⟨g, rfl, hN, C3, F3⟩
      have HN := Lib.hid hN
      have HC3 := Lib.hid C3
      have HF3 := Lib.hid (HG2.out.trans F3)
      clear hS hN C3 F3 G2
      go_wp2_with fail
      refine bodyPost_ret (v := .tuple #[pt g, .int .i64 0]) (by simp [results, Tryz.results125, go_sem]) rfl ⟨?_, HF3.out⟩
      rw [HO.out]
      exact ⟨g, rfl, HN.out.up HG2.out.size, by have := HC3.out; rwa [show posR p (.ok (u, n, k)) + n = p + (k + n) from Nat.add_assoc p k n] at this⟩
    · have HO := Lib.hid (openS_end (T := T) HK.out (by rw [List.length_drop]; omega))
      refine (sub_end HC.out n (by show bs.length - (p + k) < n; omega)).mono ?_
      rintro e w3 ⟨rfl, F3⟩
      have HC3 := Lib.hid (HC.out.old F3)
      have HF3 := Lib.hid (HG2.out.trans (F3.mono (fun _ _ h => h.elim)))
      clear F3 G2 HC
      go_wp2_with fail
      refine bodyPost_ret (v := .tuple #[.pointer none, .int .i64 3]) (by simp [results, Tryz.results125, go_sem]) rfl ⟨?_, HF3.out⟩
      rw [HO.out]
      exact ⟨rfl, p + k, by omega, HC3.out⟩
  · have hx1 : (x == 0) = false := beq_eq_false_iff_ne.2 hx
    have herr : readS (bs.drop p) = .error x := by
      have ht := HT.out
      cases hr : readS (bs.drop p) with
      | error e => rw [hr] at ht; rw [show x = e from ht]
      | ok vk => obtain ⟨v, m, k⟩ := vk; rw [hr] at ht; exact absurd ht.2.2 hx
    have hc := HC2.out
    rw [herr] at hc
    have HO := Lib.hid (openS_err1 (T := T) herr)
    have HC := Lib.hid hc
    clear herr hc
    go_wp2_with fail
    refine bodyPost_ret (v := .tuple #[.pointer none, .int .i64 x]) (by simp [results, Tryz.results125, go_sem]) rfl ⟨?_, HG2.out⟩
    rw [HO.out]
    exact ⟨rfl, p, Nat.le_refl _, HC.out⟩
def OpenOut (w w' : World) (c : Nat) (K : Nat → Prop) (bs : List UInt8) (p : Nat) (r : Except Int (List UInt8 × Nat)) (e : Ending) : Prop :=
  match r with
  | .ok (y, k) => ∃ g, e = .returned (.tuple #[pt g, .int .i64 0]) ∧ NewCur w w' g y ∧ CurAt w' c K bs (p + k)
  | .error x => e = .returned (.tuple #[.pointer none, .int .i64 x]) ∧ CurAt w' c K bs p
set_option maxRecDepth 20000 in
set_option maxHeartbeats 2000000 in
theorem open_any {w : World} {c : Nat} {K : Nat → Prop} {bs : List UInt8} {p : Nat} (h : CurAt w c K bs p) (T : Tag) :
    Calls Tryz.prog 79 #[pt c, .agg #[.int .i64 T.cls, .int .i64 T.num, .bool T.made]] w fun e w' => OpenOut w w' c K bs p (openS T (bs.drop p)) e ∧ Fr (fun k => k = c) w w' := by
  have hlc := h.lt
  obtain ⟨bx, hbx⟩ : ∃ bx, bx = w.heap.size := ⟨_, rfl⟩
  have B := (Blk.new w 38 #[pt c]).alloc (.cells #[.int .i64 T.cls, .int .i64 T.num, .bool T.made] 97)
  have BT := Blk.new (w.alloc (.cells #[pt c] 38)) 97 #[.int .i64 T.cls, .int .i64 T.num, .bool T.made]
  rw [World.size_alloc] at BT
  have F : Fr (fun _ => False) w ((w.alloc (.cells #[pt c] 38)).alloc (.cells #[.int .i64 T.cls, .int .i64 T.num, .bool T.made] 97)) := ((Fr.refl w).alloc _).alloc _
  have H := Lib.hid (h.old F)
  rw [← hbx] at B BT
  have hbc : bx ≠ c := by omega
  have htc : bx + 1 ≠ c := by omega
  have HBX := Lib.hid hbx
  have e0 := B.cell 0
  simp at e0
  clear h hbx hlc
  go_enter Tryz.func79, Tryz.ntmps79
  go_upto_region 1 with fail
  rw [← HBX.out]
  generalize ((w.alloc (.cells #[pt c] 38)).alloc (.cells #[.int .i64 T.cls, .int .i64 T.num, .bool T.made] 97)) = w0 at *
  have HF := Lib.hid F
  have HO1 := Lib.hid (open1_any H.out T bx (bx + 1) B BT hbc htc)
  clear F B BT HBX
  go_wp2_with (first | (go_at_call 124; go_in))
  refine (at_any H.out).mono ?_
  rintro e w1' ⟨rfl, rfl⟩
  go_wp2_with fail
  refine HO1.out.mono ?_
  rintro e w2 ⟨hout, F2⟩
  have HF2 := Lib.hid ((HF.out.mono (T := fun k => k = c) (fun _ _ h => h.elim)).trans F2)
  clear F2 HO1 H
  have hsz := HF.out.size
  cases hr : openS T (bs.drop p) with
  | error x =>
    rw [hr] at hout
    obtain ⟨rfl, q, hq, C2⟩ := hout
    have hx := openS_nz hr
    have hx1 : (x == 0) = false := beq_eq_false_iff_ne.2 hx
    have hx2 : (x != 0) = true := by simpa using hx
    have HB := Lib.hid (back_any C2 p hq)
    have HR := Lib.hid hr
    clear hr hx C2
    go_wp2_with fail
    refine HB.out.mono ?_
    rintro e w3 ⟨rfl, C3, F3⟩
    have HC3 := Lib.hid C3
    have HF3 := Lib.hid (HF2.out.trans F3)
    clear C3 F3 HB
    go_wp2_with fail
    refine bodyPost_ret (v := .tuple #[.pointer none, .int .i64 x]) (by simp [results, Tryz.results79, go_sem]) rfl ⟨?_, HF3.out⟩
    rw [HR.out]
    exact ⟨rfl, HC3.out⟩
  | ok yk =>
    obtain ⟨y, k⟩ := yk
    rw [hr] at hout
    obtain ⟨g, rfl, hN, C2⟩ := hout
    have HN := Lib.hid (hN.up hsz)
    have HC2 := Lib.hid C2
    have HR := Lib.hid hr
    clear hr hN C2
    go_wp2_with fail
    refine bodyPost_ret (v := .tuple #[pt g, .int .i64 0]) (by simp [results, Tryz.results79, go_sem]) rfl ⟨?_, HF2.out⟩
    rw [HR.out]
    exact ⟨g, rfl, HN.out, HC2.out⟩
theorem open_err {w : World} {c : Nat} {K : Nat → Prop} {bs : List UInt8} {p : Nat} (h : CurAt w c K bs p) (T : Tag) {x : Int} (ho : openS T (bs.drop p) = .error x) :
    Calls Tryz.prog 79 #[pt c, tagV T] w fun e w' => e = .returned (.tuple #[.pointer none, .int .i64 x]) ∧ CurAt w' c K bs p ∧ Fr (fun k => k = c) w w' :=
  (open_any h T).mono fun e w' ⟨h1, h2⟩ => by
    rw [ho] at h1
    exact ⟨h1.1, h1.2, h2⟩
theorem open_on {w : World} {c : Nat} {K : Nat → Prop} {bs : List UInt8} {p : Nat} (h : CurAt w c K bs p) (T : Tag) {y : List UInt8} {k : Nat} (ho : openS T (bs.drop p) = .ok (y, k)) :
    Calls Tryz.prog 79 #[pt c, tagV T] w fun e w' => (∃ g, e = .returned (.tuple #[pt g, .int .i64 0]) ∧ NewCur w w' g y ∧ CurAt w' c K bs (p + k)) ∧ Fr (fun k => k = c) w w' :=
  (open_any h T).mono fun e w' ⟨h1, h2⟩ => by
    rw [ho] at h1
    exact ⟨h1, h2⟩
end Go.Proofs.YtacekpdjapgfcaaGreatDoor

namespace Go.Proofs.YtacekpdjapgfcaaGreatDoor
open Go Go.RowKit Go.Q
set_option linter.unusedSimpArgs false
def rOpenOut (v : Value) (l : List UInt8) (p : Nat) (r : Except Int (List UInt8 × Nat)) (e : Ending) : Prop :=
  match r with
  | .error x => e = .returned (.tuple #[.slice none 0 0, .int .i64 p, .int .i64 x])
  | .ok (y, k) => ∃ A c, e = .returned (.tuple #[.slice A y.length c, .int .i64 ((p + k : Nat) : Int), .int .i64 0]) ∧ ∀ W, Bytes W v l → Bytes W (.slice A y.length c) y
end Go.Proofs.YtacekpdjapgfcaaGreatDoor

namespace Go.Q
open Go Go.RowKit
theorem numberS_nz : ∀ {l : List UInt8} {i n : Nat} {x : Int}, numberS i n l = .error x → x ≠ 0
  | [], i, n, x, h => by simp only [numberS, Except.error.injEq] at h; omega
  | y :: t, i, n, x, h => by
    simp only [numberS] at h
    split at h
    · cases h; decide
    split at h
    · cases h; decide
    split at h
    · cases h
    · exact numberS_nz h
theorem oidStS_nz : ∀ {l : List UInt8} {o : List Int} {i n : Nat} {x : Int}, oidStS o i n l = .error x → x ≠ 0
  | [], o, i, n, x, h => by
    simp only [oidStS] at h
    split at h
    · cases h
    · cases h; decide
  | y :: t, o, i, n, x, h => by
    simp only [oidStS] at h
    split at h
    · cases h; decide
    split at h
    · cases h; decide
    split at h
    · split at h
      · cases h; decide
      · exact oidStS_nz h
    · exact oidStS_nz h
theorem oidParse_nz {l : List UInt8} {x : Int} (h : oidParseS l = .error x) : x ≠ 0 := by
  unfold oidParseS at h
  split at h
  · cases h; decide
  · exact oidStS_nz h
theorem oidRead_nz {l : List UInt8} {x : Int} (h : oidReadS l = .error x) : x ≠ 0 := by
  unfold oidReadS at h
  split at h
  · rename_i hx
    cases h
    exact openS_nz hx
  · split at h
    · rename_i hx
      cases h
      exact oidParse_nz hx
    · cases h
end Go.Q
namespace Go.Proofs.YtacekpdjapgfcaaGreatDoor
open Go Go.RowKit Go.Q
set_option linter.unusedSimpArgs false
def nextOut (w' : World) (c : Nat) (K : Nat → Prop) (bs : List UInt8) (p : Nat) (r : Except Int (Nat × Nat)) (e : Ending) : Prop :=
  match r with
  | .ok (m, k) => e = .returned (.tuple #[.int .i64 m, .int .i64 0]) ∧ CurAt w' c K bs (p + k)
  | .error x => e = .returned (.tuple #[.int .i64 0, .int .i64 x]) ∧ ∃ q, p ≤ q ∧ CurAt w' c K bs q
set_option maxRecDepth 20000 in
set_option maxHeartbeats 2000000 in
theorem oidNext_any {w : World} {c : Nat} {K : Nat → Prop} {bs : List UInt8} {p : Nat} (h : CurAt w c K bs p) :
    Calls Tryz.prog 181 #[pt c] w fun e w' => nextOut w' c K bs p (numberS 0 0 (bs.drop p)) e ∧ Fr (fun k => k = c) w w' := by
  have H := Lib.hid h
  have hple := h.le
  clear h
  go_enter Tryz.func181, Tryz.ntmps181
  go_wp2_with fail
  go_loopg [4, 5] (bs.length - p) (fun g n i wr => ∃ (k m : Nat), g = bs.length - p - k ∧ m ≤ 2147483647 ∧ n = .int .i64 m ∧ i = .int .i64 k ∧ CurAt wr c K bs (p + k) ∧ Fr (fun k => k = c) w wr ∧ numberS 0 0 (bs.drop p) = numberS k m (bs.drop (p + k)))
  case atStart => exact ⟨0, 0, rfl, by omega, rfl, rfl, H.out, Fr.refl _, rfl⟩
  case round =>
    obtain ⟨k, m, hg, hm, rfl, rfl, hC, hF, hN⟩ := hrel
    have HG := Lib.hid hg
    have HC := Lib.hid hC
    have HN := Lib.hid hN
    have hcle := hC.le
    have hcsm := hC.small
    clear hg hC hN
    cases hd : bs.drop (p + k) with
    | nil =>
      have HD := Lib.hid hd
      clear hd
      go_wp2_with fail
      refine (byte_end HC.out HD.out).mono ?_
      rintro e w1 ⟨rfl, F1⟩
      go_wp2_with fail
      have hN := HN.out
      rw [HD.out] at hN
      simp only [numberS] at hN
      refine bodyPost_ret (v := .tuple #[.int .i64 0, .int .i64 6]) (by simp [results, Tryz.results181, go_sem]) rfl ⟨?_, hF.trans (F1.mono (fun _ _ h => h.elim))⟩
      rw [hN]
      exact ⟨rfl, _, Nat.le_add_right _ _, HC.out.old F1⟩
    | cons x t =>
      have HD := Lib.hid hd
      have hdl : (bs.drop (p + k)).length = t.length + 1 := by rw [hd]; rfl
      rw [List.length_drop] at hdl
      have hd2 : bs.drop (p + (k + 1)) = t := by
        rw [← Nat.add_assoc, ← List.drop_drop, hd]; rfl
      have HD2 := Lib.hid hd2
      clear hd hd2 hdl
      go_wp2_with fail
      refine (byte_on HC.out HD.out).mono ?_
      rintro e w1 ⟨rfl, C1, F1⟩
      have hx : x.toNat < 256 := x.toNat_lt
      have hN := HN.out
      rw [HD.out] at hN
      simp only [numberS] at hN
      have HC1 := Lib.hid C1
      have HF1 := Lib.hid (hF.trans F1)
      clear C1 hF F1 HC
      by_cases h3 : k = 0 ∧ x.toNat = 128
      · rw [if_pos h3] at hN
        have HN2 := Lib.hid hN
        obtain ⟨rfl, h128⟩ := h3
        have h128' : (x.toNat : Int) = 128 := by omega
        clear hN HN
        go_wp2_with fail
        refine bodyPost_ret (v := .tuple #[.int .i64 0, .int .i64 6]) (by simp [results, Tryz.results181, go_sem]) rfl ⟨?_, HF1.out⟩
        rw [HN2.out]
        exact ⟨rfl, _, by omega, HC1.out⟩
      · rw [if_neg h3] at hN
        obtain ⟨r, hr⟩ : ∃ r, r = x.toNat % 128 := ⟨_, rfl⟩
        have hr2 : r < 128 := by omega
        have hb1 : bits .and .u8 (x.toNat : Int) 127 = (r : Int) := by rw [hr]; exact and127 x
        obtain ⟨v, hv⟩ : ∃ v, v = m * 128 + r := ⟨_, rfl⟩
        have hb2 : bits .or .i64 ((m : Int) * 128) (r : Int) = (v : Int) := by rw [hv]; exact or7 m r (by omega) hr2
        have hw1 : wrap64 ((m : Int) * 128) = (m : Int) * 128 := by unfold wrap64; omega
        have hw2 : wrap64 (r : Int) = (r : Int) := wrap_nat r (by omega)
        rw [← hr, ← hv] at hN
        have HN2 := Lib.hid hN
        have HW := Lib.hid (And.intro hb1 (And.intro hb2 (And.intro hw1 hw2)))
        clear hb1 hb2 hw1 hw2 hN HN
        have hxv : x.toNat < 128 → m * 128 + x.toNat = v := fun h => by omega
        have HXV := Lib.hid hxv
        clear hr hv hxv
        rcases Classical.em (k = 0) with h0 | h0
        case' inl =>
          have h128' : ¬ (x.toNat : Int) = 128 := by omega
          have hk0 : ((k : Int) == 0) = true := by simpa using h0
        case' inr =>
          have hk0 : ((k : Int) == 0) = false := by simpa using h0
        all_goals
          by_cases hvm : 2147483647 < v
          · have hv31 : (2147483647 : Int) < (v : Int) := by omega
            have hE := HN2.out
            rw [if_pos hvm] at hE
            have HE := Lib.hid hE
            clear hE HN2 hvm hm
            go_upto_region 8 with fail
            simp only [HW.out.1, HW.out.2.2.1, HW.out.2.2.2, HW.out.2.1]
            go_wp2_with fail
            refine bodyPost_ret (v := .tuple #[.int .i64 0, .int .i64 2]) (by simp [results, Tryz.results181, go_sem]) rfl ⟨?_, HF1.out⟩
            rw [HE.out]
            exact ⟨rfl, _, by omega, HC1.out⟩
          · have hv31 : ¬ (2147483647 : Int) < (v : Int) := by omega
            have hE := HN2.out
            rw [if_neg hvm] at hE
            by_cases hx7 : x.toNat < 128
            · have hx8 : (x.toNat : Int) < 128 := by omega
              rw [if_pos hx7, HXV.out hx7] at hE
              have HE := Lib.hid hE
              clear hE HN2 hvm hm
              go_upto_region 8 with fail
              simp only [HW.out.1, HW.out.2.2.1, HW.out.2.2.2, HW.out.2.1]
              go_wp2_with fail
              refine bodyPost_ret (v := .tuple #[.int .i64 v, .int .i64 0]) (by simp [results, Tryz.results181, go_sem]) rfl ⟨?_, HF1.out⟩
              rw [HE.out]
              exact ⟨rfl, HC1.out⟩
            · have hx8 : ¬ (x.toNat : Int) < 128 := by omega
              rw [if_neg hx7] at hE
              have HE := Lib.hid hE
              clear hE HN2 hvm hm
              go_upto_region 8 with fail
              simp only [HW.out.1, HW.out.2.2.1, HW.out.2.2.2, HW.out.2.1]
              go_wp2_with fail
              go_roundg (bs.length - p - (k + 1))
              case measure => rw [HG.out]; have := HC1.out.le; omega
              case rel => exact ⟨k + 1, v, rfl, by omega, rfl, by go_num, HC1.out, HF1.out, by rw [HE.out, HD2.out]⟩
set_option maxRecDepth 20000 in
theorem oidSplit_any (m : Nat) (hm : m ≤ 2147483647) (w : World) :
    Calls Tryz.prog 182 #[.int .i64 m] w fun e w' => ∃ a c, e = .returned (.slice a 2 c) ∧ w'.ownsRow w.heap.size 3 1 (.slice a 2 c) 2 (intCells (addS [] m)) ∧ Fr (fun _ => False) w w' := by
  have HA := Lib.hid (show addS [] m = if m < 80 then [((m / 40 : Nat) : Int), ((m % 40 : Nat) : Int)] else [2, (m : Int) - 80] from rfl)
  have hq : (m : Int) / 40 = ((m / 40 : Nat) : Int) := by omega
  have hr : (m : Int) % 40 = ((m % 40 : Nat) : Int) := by omega
  generalize m / 40 = mq at *
  generalize m % 40 = mr at *
  by_cases h8 : m < 80
  · have q1 : (m : Int) < 80 := by omega
    have hA := HA.out
    rw [if_pos h8] at hA
    have HA2 := Lib.hid hA
    clear hA HA
    go_enter Tryz.func182, Tryz.ntmps182
    go_wp2_with fail
    go_ret
    rw [HA2.out]
    exact ⟨_, 2, rfl, own_block (Blk.new w 3 #[.int .i64 mq, .int .i64 mr]) 2 (Nat.le_refl _) (by unfold maxLen; simp) _ (Nat.le_refl _), (Fr.refl w).alloc _⟩
  · have q1 : ¬ (m : Int) < 80 := by omega
    have hA := HA.out
    rw [if_neg h8] at hA
    have HA2 := Lib.hid hA
    clear hA HA hq hr
    go_enter Tryz.func182, Tryz.ntmps182
    go_wp2_with fail
    go_ret
    rw [HA2.out]
    exact ⟨_, 2, rfl, own_block (Blk.new w 3 #[.int .i64 2, .int .i64 ((m : Int) - 80)]) 2 (Nat.le_refl _) (by unfold maxLen; simp) _ (Nat.le_refl _), (Fr.refl w).alloc _⟩
def oidParseOut (w w' : World) (r : Except Int (List Int)) (e : Ending) : Prop :=
  match r with
  | .ok o => ∃ a c, e = .returned (.tuple #[.slice a o.length c, .int .i64 0]) ∧ w'.ownsRow w.heap.size 3 1 (.slice a o.length c) o.length (intCells o)
  | .error x => e = .returned (.tuple #[.slice none 0 0, .int .i64 x])
theorem addS_snoc {o : List Int} (h : o ≠ []) (m : Nat) : addS o m = o ++ [(m : Int)] := if_neg h
set_option maxRecDepth 20000 in
set_option maxHeartbeats 2000000 in
theorem oidParse_any (v : Value) (l : List UInt8) (w : World) (h : Bytes w v l) (hl : l.length ≤ 1099511627776) :
    Calls Tryz.prog 140 #[v] w fun e w' => oidParseOut w w' (oidParseS l) e ∧ Fr (fun _ => False) w w' := by
  have hN := Lib.hid (new_any w v l h hl)
  have HP := Lib.hid (show oidParseS l = if l = [] then .error 6 else oidStS [] 0 0 l from rfl)
  clear h
  go_enter Tryz.func140, Tryz.ntmps140
  go_wp2_with fail
  refine hN.out.mono ?_
  rintro e w1 ⟨rfl, C1, F1⟩
  obtain ⟨c, hc⟩ : ∃ c, c = w.heap.size := ⟨_, rfl⟩
  have HX := Lib.hid (oidNext_any C1)
  have HF1 := Lib.hid F1
  rw [← hc] at HX C1 ⊢
  have hs1 := F1.size
  have hc1 := C1.lt
  have HC := Lib.hid hc
  clear C1 F1 hN hc
  go_wp2_with fail
  refine HX.out.mono ?_
  rintro e w2 ⟨hout, F2⟩
  rw [List.drop_zero] at hout
  have HF2 := Lib.hid (HF1.out.trans' F2 (fun i hi e => absurd hi (by rw [e, HC.out]; exact Nat.lt_irrefl _)))
  have hs2 := F2.size
  clear F2 HX HF1
  unfold nextOut at hout
  cases hn : numberS 0 0 l with
  | error x =>
    rw [hn] at hout
    obtain ⟨rfl, -⟩ := hout
    have hx := numberS_nz hn
    have hx1 : (x == 0) = false := beq_eq_false_iff_ne.2 hx
    have hx2 : (x != 0) = true := by simpa using hx
    have hr : oidParseS l = .error x := by
      rw [HP.out]
      cases l with
      | nil => rw [if_pos rfl]; simp only [numberS] at hn; cases hn; rfl
      | cons y t => rw [if_neg (by simp), oidSt_num [] _ 0 0 (.inr (by simp)), hn]
    have HR := Lib.hid hr
    clear hn hr hx HP
    go_wp2_with fail
    refine bodyPost_ret (v := .tuple #[.slice none 0 0, .int .i64 x]) (by simp [results, Tryz.results140, go_sem]) rfl ⟨?_, HF2.out⟩
    rw [HR.out]
    exact rfl
  | ok mk =>
    obtain ⟨m, k⟩ := mk
    rw [hn] at hout
    obtain ⟨rfl, C2⟩ := hout
    obtain ⟨j, hj, -, hm, hj1, hjl⟩ := numberS_back _ 0 0 m k (fun _ => rfl) (fun h => absurd rfl h) hn
    have hl0 : l ≠ [] := by rintro rfl; simp at hjl; omega
    have hst : oidParseS l = oidStS (addS [] m) 0 0 (l.drop k) := by
      rw [HP.out, if_neg hl0, oidSt_num [] _ 0 0 (.inr hl0), hn]
      simp only [List.length_nil]
      rw [if_neg (by omega), Nat.sub_zero]
    have hal : (addS [] m).length = 2 := by unfold addS; rw [if_pos rfl]; split <;> rfl
    obtain ⟨o2, ho2⟩ : ∃ o, o = addS [] m := ⟨_, rfl⟩
    have HS2 := Lib.hid (oidSplit_any m hm w2)
    rw [← ho2] at hst hal HS2
    rw [Nat.zero_add] at C2
    have hc2 := C2.lt
    have HST := Lib.hid hst
    have HAL := Lib.hid hal
    have HC2 := Lib.hid C2
    have hle2 := C2.le
    clear C2 hst hal ho2 hn hj hjl hl0 HP
    go_wp2_with fail
    refine HS2.out.mono ?_
    rintro e w3 ⟨a2, c2, rfl, hown, F3⟩
    have HO3 := Lib.hid hown
    have HC3 := Lib.hid ((HC2.out.step (K' := fun k => k < w.heap.size ∨ w2.heap.size ≤ k) (Fr.refl w2) (S := fun _ => False) (fun _ _ h => h.elim) (fun k hk => by have := HC.out; omega)).old F3)
    have HF3 := Lib.hid (HF2.out.trans F3)
    have hs3 := F3.size
    clear hown F3 HF2 HC2 HS2
    go_wp2_with fail
    go_loopg [7] (l.length - k) (fun g u wr => ∃ (o : List Int) (q : Nat) (a : Option Addr) (cc : Nat), g = l.length - q ∧ q ≤ l.length ∧ o.length ≤ 32 ∧ 2 ≤ o.length ∧ u = .slice a o.length cc ∧ wr.ownsRow w2.heap.size 3 1 (.slice a o.length cc) o.length (intCells o) ∧ CurAt wr c (fun k => k < w.heap.size ∨ w2.heap.size ≤ k) l q ∧ Fr (fun _ => False) w wr ∧ w2.heap.size ≤ wr.heap.size ∧ oidParseS l = oidStS o 0 0 (l.drop q))
    case atStart => exact ⟨o2, k, a2, c2, rfl, hle2, by rw [HAL.out]; omega, by rw [HAL.out]; exact Nat.le_refl _, by rw [HAL.out], by rw [HAL.out]; exact HO3.out, HC3.out, HF3.out, hs3, HST.out⟩
    case round =>
      obtain ⟨o, q, a, cc, hg, hq, ho32, ho2, rfl, hown, hC, hF, hsz, hR⟩ := hrel
      have HG := Lib.hid hg
      have HOW := Lib.hid hown
      have HCC := Lib.hid hC
      have HF := Lib.hid hF
      have HR := Lib.hid hR
      have HL := Lib.hid (left_any hC)
      clear hg hown hC hF hR
      by_cases hql : q < l.length
      · have q1 : (0 : Int) < ((l.length - q : Nat) : Int) := by omega
        obtain ⟨lq, hlq⟩ : ∃ lq, lq = l.length - q := ⟨_, rfl⟩
        rw [← hlq] at q1 HL HG
        have HLQ := Lib.hid hlq
        clear hlq
        go_wp2_with fail
        refine HL.out.mono ?_
        rintro e w4 ⟨rfl, F4⟩
        have HC4 := Lib.hid (HCC.out.old F4)
        have HX := Lib.hid (oidNext_any HC4.out)
        have HF4 := Lib.hid (HF.out.trans F4)
        have HO4 := Lib.hid (ownsRow_fr HOW.out F4 (fun _ _ h => h))
        have hs4 := F4.size
        clear F4 HCC HF HOW HL
        go_wp2_with fail
        refine HX.out.mono ?_
        rintro e w5 ⟨hout, F5⟩
        have HF5 := Lib.hid (HF4.out.trans' F5 (fun i hi e => absurd hi (by rw [e, HC.out]; exact Nat.lt_irrefl _)))
        have HO5 := Lib.hid (ownsRow_fr HO4.out F5 (fun k hk e => by have := ((Vals.of_own HO4.out).2 k hk).1; omega))
        have hs5 := F5.size
        unfold nextOut at hout
        have hd0 : l.drop q ≠ [] := by
          intro e
          have := congrArg List.length e
          rw [List.length_drop, List.length_nil] at this
          omega
        have hst := oidSt_num o (l.drop q) 0 0 (.inr hd0)
        clear F5 HF4 HO4 HX hd0
        cases hn : numberS 0 0 (l.drop q) with
        | error x =>
          rw [hn] at hout hst
          obtain ⟨rfl, -⟩ := hout
          have hx := numberS_nz hn
          have hx1 : (x == 0) = false := beq_eq_false_iff_ne.2 hx
          have hx2 : (x != 0) = true := by simpa using hx
          have HR2 := Lib.hid (HR.out.trans hst)
          clear hn hx hst
          go_wp2_with fail
          refine bodyPost_ret (v := .tuple #[.slice none 0 0, .int .i64 x]) (by simp [results, Tryz.results140, go_sem]) rfl ⟨?_, HF5.out⟩
          rw [HR2.out]
          exact rfl
        | ok mk =>
          obtain ⟨m2, k2⟩ := mk
          rw [hn] at hout hst
          obtain ⟨rfl, C5⟩ := hout
          obtain ⟨j2, hj2, -, hm2, hj3, hjl2⟩ := numberS_back _ 0 0 m2 k2 (fun _ => rfl) (fun h => absurd rfl h) hn
          have HR2 := Lib.hid (HR.out.trans hst)
          rw [Nat.zero_add] at hj2
          subst hj2
          have hk2 := C5.le
          have HC5 := Lib.hid C5
          have hql2 : l.length - (q + k2) < l.length - q := by omega
          have HQ := Lib.hid hql2
          clear hn hst C5 HC4 hm2 hjl2 hql2
          by_cases h32 : o.length = 32
          · have q3 : ((o.length : Int) == 32) = true := by rw [h32]; rfl
            have q4 : (o.length == 32) = true := by rw [h32]; rfl
            have hr := HR2.out
            simp only [h32, ↓reduceIte] at hr
            have HR3 := Lib.hid hr
            clear hr HR2 h32
            go_wp2_with fail
            refine bodyPost_ret (v := .tuple #[.slice none 0 0, .int .i64 2]) (by simp [results, Tryz.results140, go_sem]) rfl ⟨?_, HF5.out⟩
            rw [HR3.out]
            exact rfl
          · have q3 : ((o.length : Int) == 32) = false := beq_eq_false_iff_ne.2 (by omega)
            have q4 : (o.length == 32) = false := beq_eq_false_iff_ne.2 (by omega)
            have hr := HR2.out
            have hlt : o.length + 1 ≤ 32 := by omega
            simp only [h32, ↓reduceIte, Nat.sub_zero] at hr
            rw [addS_snoc (by rintro rfl; simp at ho2), List.drop_drop] at hr
            have HR3 := Lib.hid hr
            obtain ⟨a7, c7, w7, hrun, ho7, F7, hw7⟩ := add_int HO5.out (Nat.le_trans hsz (Nat.le_trans hs4 hs5)) (by omega) (m2 : Int) w5.heap.size ((Fr.refl w5).alloc (.cells #[.int .i64 m2] 3)) (Blk.new w5 3 #[.int .i64 m2])
            have hkp := (Vals.of_own HO5.out).2
            have HC7 := Lib.hid (HC5.out.step (K' := fun k => k < w.heap.size ∨ w2.heap.size ≤ k) F7 (fun k hk e => .inr (hkp k e).1) (fun k hk => .inl hk))
            have HF7 := Lib.hid (HF5.out.trans' F7 (fun i hi e => absurd hi (by have := (hkp i e).1; omega)))
            have hs7 := F7.size
            have HRUN := Lib.hid hrun
            have HO7 := Lib.hid ho7
            clear hr HR2 h32 hrun ho7 F7 hw7 hkp HC5
            go_wp2_with (at_builtin; refine wpList_append_run (by rfl) (.tmp 36) (.tmp 38) 105 (by rfl) _ w7 (by exact HRUN.out) ?_)
            go_roundg (l.length - (q + k2))
            case measure => rw [HG.out, HLQ.out]; exact HQ.out
            case rel => exact ⟨o ++ [(m2 : Int)], q + k2, a7, c7, rfl, hk2, by rw [List.length_append]; exact hlt, by rw [List.length_append]; omega, by rw [List.length_append]; rfl, by rw [List.length_append]; exact HO7.out, HC7.out, HF7.out, by omega, HR3.out⟩
      · obtain rfl : q = l.length := by omega
        have q1 : ¬ (0 : Int) < ((l.length - l.length : Nat) : Int) := by omega
        have hr := HR.out
        rw [List.drop_length] at hr
        simp only [oidStS, ↓reduceIte] at hr
        have HR2 := Lib.hid hr
        rw [Nat.sub_self] at HL
        clear hr HR q1
        go_wp2_with fail
        refine HL.out.mono ?_
        rintro e w4 ⟨rfl, F4⟩
        have HF4 := Lib.hid (HF.out.trans F4)
        have HO4 := Lib.hid (own_le (ownsRow_fr HOW.out F4 (fun _ _ h => h)) (Nat.le_trans hs1 hs2))
        clear F4 HF HOW HL
        go_wp2_with fail
        refine bodyPost_ret (v := .tuple #[.slice a o.length cc, .int .i64 0]) (by simp [results, Tryz.results140, go_sem]) rfl ⟨?_, HF4.out⟩
        rw [HR2.out]
        exact ⟨a, cc, rfl, HO4.out⟩
end Go.Proofs.YtacekpdjapgfcaaGreatDoor

namespace Go.Q
open Go Go.RowKit
theorem oidSt_one : ∀ (l : List UInt8) (o : List Int) (i n : Nat), oidStS o (i + 1) n l = oidStS o 1 n l
  | [], o, i, n => by simp [oidStS]
  | x :: t, o, i, n => by
    have h1 := oidSt_one t o (i + 1) (n * 128 + x.toNat % 128)
    have h2 := oidSt_one t o 1 (n * 128 + x.toNat % 128)
    simp only [oidStS, h1, h2, Nat.succ_ne_zero, false_and, ite_false]
theorem oidSt_next {l : List UInt8} {o : List Int} {st n i : Nat} {x : UInt8} (h : l[i]? = some x) : oidStS o st n (l.drop i) = if st = 0 ∧ x.toNat = 128 then .error 6 else if 2147483647 < n * 128 + x.toNat % 128 then .error 2 else if x.toNat < 128 then (if o.length = 32 then .error 2 else oidStS (addS o (n * 128 + x.toNat % 128)) 0 0 (l.drop (i + 1))) else oidStS o 1 (n * 128 + x.toNat % 128) (l.drop (i + 1)) := by
  obtain ⟨hi, rfl⟩ := List.getElem?_eq_some_iff.1 h
  rw [List.drop_eq_getElem_cons hi]
  simp only [oidStS]
  by_cases h1 : l[i].toNat < 128
  · simp only [if_pos h1, show l[i].toNat % 128 = l[i].toNat from by omega]
  · simp only [if_neg h1, oidSt_one]
end Go.Q
namespace Go.Proofs.YtacekpdjapgfcaaGreatDoor
open Go Go.RowKit Go.Q
set_option linter.unusedSimpArgs false
set_option maxRecDepth 20000 in
set_option maxHeartbeats 4000000 in
theorem r04Parse_any (v : Value) (l : List UInt8) (w : World) (h : Bytes w v l) (hl : l.length ≤ 1099511627776) :
    Calls Tryz.prog 85 #[v] w fun e w' => oidParseOut w w' (oidParseS l) e ∧ Fr (fun _ => False) w w' := by
  obtain ⟨a0, cap, rfl, hcap, hcm, hx⟩ := Vals.form h
  have HX := Lib.hid hx
  have HP := Lib.hid (show oidParseS l = if l = [] then .error 6 else oidStS [] 0 0 l from rfl)
  clear h hx hcm
  by_cases hl0 : l.length = 0
  · have q1 : ((l.length : Int) == 0) = true := by rw [hl0]; rfl
    have q2 : (l.length == 0) = true := by rw [hl0]; rfl
    have hp := HP.out
    rw [if_pos (List.length_eq_zero_iff.1 hl0)] at hp
    have HP2 := Lib.hid hp
    clear hp HP hl0
    go_enter Tryz.func85, Tryz.ntmps85
    go_wp2_with fail
    refine bodyPost_ret (v := .tuple #[.slice none 0 0, .int .i64 6]) (by simp [results, Tryz.results85, go_sem]) rfl ⟨?_, Fr.refl _⟩
    rw [HP2.out]
    rfl
  · have q1 : ((l.length : Int) == 0) = false := beq_eq_false_iff_ne.2 (by omega)
    have q2 : (l.length == 0) = false := beq_eq_false_iff_ne.2 hl0
    have hp := HP.out
    rw [if_neg (by rintro rfl; exact hl0 rfl)] at hp
    have HP2 := Lib.hid hp
    clear hp HP hl0
    go_enter Tryz.func85, Tryz.ntmps85
    go_wp2_with fail
    go_loopg [4, 5, 6, 7] l.length (fun gk u4 u5 u6 u7 wr => ∃ (o : List Int) (fr : Bool) (m i : Nat) (a : Option Addr) (c : Nat), gk = l.length - i ∧ i ≤ l.length ∧ u4 = .slice a o.length c ∧ u5 = .int .i64 m ∧ u6 = .bool fr ∧ u7 = .int .i64 i ∧ (fr = false → i < l.length) ∧ m ≤ 2147483647 ∧ o.length ≤ 32 ∧ wr.ownsRow w.heap.size 3 1 (.slice a o.length c) o.length (intCells o) ∧ Fr (fun _ => False) w wr ∧ oidParseS l = oidStS o (if fr then 0 else 1) m (l.drop i))
    case atStart => exact ⟨[], true, 0, 0, none, 0, rfl, Nat.zero_le _, rfl, rfl, rfl, rfl, by simp, by omega, by simp, ⟨rfl, .inl ⟨rfl, rfl⟩⟩, Fr.refl _, by rw [HP2.out]; rfl⟩
    case round =>
      obtain ⟨o, fr, m, i, a, c, hgk, hi, rfl, rfl, rfl, rfl, hfr, hm, ho32, hown, hF, hR⟩ := hrel
      have HG := Lib.hid hgk
      have HOW := Lib.hid hown
      have HF := Lib.hid hF
      have HR := Lib.hid hR
      have HFR := Lib.hid hfr
      clear hgk hown hF hR hfr HP2
      by_cases hil : i < l.length
      · have q3 : (i : Int) < (l.length : Int) := by omega
        obtain ⟨x, hx⟩ : ∃ x, l[i]? = some x := ⟨_, List.getElem?_eq_getElem hil⟩
        obtain ⟨b, off, rfl, hy⟩ := HX.out (by omega)
        have e1 := HF.out.cell (hy i x hx) (fun h => h)
        have HE1 := Lib.hid e1
        have hr := HR.out.trans (oidSt_next hx)
        have hx8 : x.toNat < 256 := x.toNat_lt
        obtain ⟨r, hr2⟩ : ∃ r, r = x.toNat % 128 := ⟨_, rfl⟩
        obtain ⟨vv, hv⟩ : ∃ vv, vv = m * 128 + r := ⟨_, rfl⟩
        rw [← hr2, ← hv] at hr
        have HRR := Lib.hid hr
        have s0 : (0 : Int) ≤ (i : Int) := by omega
        have hrl : r < 128 := by omega
        have HV := Lib.hid (And.intro hr2 hv)
        clear hx hy hr hr2 hv HR
        clear HX
        by_cases h6 : fr = true ∧ x.toNat = 128
        · obtain ⟨rfl, h128⟩ := h6
          have h128' : (x.toNat : Int) = 128 := by omega
          have hr := HRR.out
          rw [if_pos ⟨rfl, h128⟩] at hr
          have HR2 := Lib.hid hr
          clear hr HRR h128
          go_wp2_with fail
          refine bodyPost_ret (v := .tuple #[.slice none 0 0, .int .i64 6]) (by simp [results, Tryz.results85, go_sem]) rfl ⟨?_, HF.out⟩
          rw [HR2.out]
          rfl
        · have hr := HRR.out
          rw [if_neg (fun h => h6 ⟨by cases fr; (simp at h); rfl, h.2⟩)] at hr
          have HR2 := Lib.hid hr
          have h128' : fr = true → ¬ (x.toNat : Int) = 128 := fun h e => h6 ⟨h, by omega⟩
          clear hr HRR h6
          have HSUM := Lib.hid (show 128 * (m : Int) + (x.toNat : Int) % 128 = (vv : Int) from by have := HV.out; omega)
          cases fr
          case' false =>
            clear h128'
            go_upto_region 13 with fail
          case' true =>
            replace h128' := h128' rfl
            go_upto_region 13 with fail
          all_goals
            simp only [HSUM.out]
            clear HSUM e1 hm
            by_cases hvm : 2147483647 < vv
            · have q5 : (2147483647 : Int) < (vv : Int) := by omega
              have hr := HR2.out
              rw [if_pos hvm] at hr
              have HR3 := Lib.hid hr
              clear hr HR2 hvm
              go_wp2_with fail
              refine bodyPost_ret (v := .tuple #[.slice none 0 0, .int .i64 2]) (by simp [results, Tryz.results85, go_sem]) rfl ⟨?_, HF.out⟩
              rw [HR3.out]
              rfl
            · have q5 : ¬ (2147483647 : Int) < (vv : Int) := by omega
              have hr := HR2.out
              rw [if_neg hvm] at hr
              have e1 := HE1.out
              by_cases hx7 : x.toNat < 128
              · have q6 : ¬ (128 : Int) ≤ (x.toNat : Int) := by omega
                rw [if_pos hx7] at hr
                by_cases h32 : o.length = 32
                · have q7 : ((o.length : Int) == 32) = true := by rw [h32]; rfl
                  have q8 : (o.length == 32) = true := by rw [h32]; rfl
                  rw [if_pos h32] at hr
                  have HR3 := Lib.hid hr
                  clear hr HR2 h32 hvm
                  go_wp2_with fail
                  refine bodyPost_ret (v := .tuple #[.slice none 0 0, .int .i64 2]) (by simp [results, Tryz.results85, go_sem]) rfl ⟨?_, HF.out⟩
                  rw [HR3.out]
                  rfl
                · have q7 : ((o.length : Int) == 32) = false := beq_eq_false_iff_ne.2 (by omega)
                  have q8 : (o.length == 32) = false := beq_eq_false_iff_ne.2 h32
                  rw [if_neg h32] at hr
                  have HR3 := Lib.hid hr
                  have ho31 : o.length + 1 ≤ 32 := by omega
                  clear hr HR2 h32
                  by_cases h0 : o.length = 0
                  · obtain rfl : o = [] := List.length_eq_zero_iff.1 h0
                    have hvm2 : vv ≤ 2147483647 := by omega
                    by_cases h40 : vv < 40
                    · have q9 : (vv : Int) < 40 := by omega
                      have HAD := Lib.hid (show addS [] vv = [0, (vv : Int)] from by
                        unfold addS
                        rw [if_pos rfl, if_pos (by omega), show vv / 40 = 0 from by omega, show vv % 40 = vv from by omega]
                        rfl)
                      clear h0 hvm hvm2 h40 ho31
                      obtain ⟨v7, w7, hrun, ho7, F7, -⟩ := append_ints (ownsRow_fr HOW.out ((Fr.refl wr).alloc (.cells #[.int .i64 0, .int .i64 (vv : Int)] 3)) (fun _ _ h => h)) (some ⟨wr.heap.size, 0, none⟩) 2 2 [0, (vv : Int)] (Vals.of_block (Blk.new wr 3 #[.int .i64 0, .int .i64 (vv : Int)]) (by unfold maxLen; simp)) (by simp) (Nat.le_trans HF.out.size ((Fr.refl wr).alloc (S := fun _ => False) _).size)
                      obtain ⟨a7, n7, c7, rfl, rfl⟩ := own_shape ho7
                      have hkp := (Vals.of_own HOW.out).2
                      have HF7 := Lib.hid ((HF.out.alloc _).trans' F7 (fun k hk e => by have := (hkp k e).1; omega))
                      have HRUN := Lib.hid hrun
                      have HO7 := Lib.hid ho7
                      clear hrun ho7 F7 hkp
                      go_wp2_with (at_builtin; refine wpList_append_run (by rfl) (.tmp 65) (.tmp 67) 105 (by rfl) _ w7 (by exact HRUN.out) ?_)
                      go_roundg (l.length - (i + 1))
                      case measure => rw [HG.out]; omega
                      case rel => exact ⟨[0, (vv : Int)], true, 0, i + 1, a7, c7, rfl, by omega, rfl, rfl, rfl, by go_num, by simp, by omega, by simp, HO7.out, HF7.out, by rw [HR3.out, HAD.out]; rfl⟩
                    · have q9 : ¬ (vv : Int) < 40 := by omega
                      by_cases h80 : vv < 80
                      · have q10 : (vv : Int) < 80 := by omega
                        have HAD := Lib.hid (show addS [] vv = [1, (vv : Int) - 40] from by
                          unfold addS
                          rw [if_pos rfl, if_pos h80, show vv / 40 = 1 from by omega, show ((vv % 40 : Nat) : Int) = (vv : Int) - 40 from by omega]
                          rfl)
                        clear h0 hvm hvm2 h40 h80 ho31
                        obtain ⟨v7, w7, hrun, ho7, F7, -⟩ := append_ints (ownsRow_fr HOW.out ((Fr.refl wr).alloc (.cells #[.int .i64 1, .int .i64 ((vv : Int) - 40)] 3)) (fun _ _ h => h)) (some ⟨wr.heap.size, 0, none⟩) 2 2 [1, ((vv : Int) - 40)] (Vals.of_block (Blk.new wr 3 #[.int .i64 1, .int .i64 ((vv : Int) - 40)]) (by unfold maxLen; simp)) (by simp) (Nat.le_trans HF.out.size ((Fr.refl wr).alloc (S := fun _ => False) _).size)
                        obtain ⟨a7, n7, c7, rfl, rfl⟩ := own_shape ho7
                        have hkp := (Vals.of_own HOW.out).2
                        have HF7 := Lib.hid ((HF.out.alloc _).trans' F7 (fun k hk e => by have := (hkp k e).1; omega))
                        have HRUN := Lib.hid hrun
                        have HO7 := Lib.hid ho7
                        clear hrun ho7 F7 hkp
                        go_wp2_with (at_builtin; refine wpList_append_run (by rfl) (.tmp 72) (.tmp 75) 105 (by rfl) _ w7 (by exact HRUN.out) ?_)
                        go_roundg (l.length - (i + 1))
                        case measure => rw [HG.out]; omega
                        case rel => exact ⟨[1, ((vv : Int) - 40)], true, 0, i + 1, a7, c7, rfl, by omega, rfl, rfl, rfl, by go_num, by simp, by omega, by simp, HO7.out, HF7.out, by rw [HR3.out, HAD.out]; rfl⟩
                      · have q10 : ¬ (vv : Int) < 80 := by omega
                        have HAD := Lib.hid (show addS [] vv = [2, (vv : Int) - 80] from by
                          unfold addS
                          rw [if_pos rfl, if_neg h80])
                        clear h0 hvm hvm2 h40 h80 ho31
                        obtain ⟨v7, w7, hrun, ho7, F7, -⟩ := append_ints (ownsRow_fr HOW.out ((Fr.refl wr).alloc (.cells #[.int .i64 2, .int .i64 ((vv : Int) - 80)] 3)) (fun _ _ h => h)) (some ⟨wr.heap.size, 0, none⟩) 2 2 [2, ((vv : Int) - 80)] (Vals.of_block (Blk.new wr 3 #[.int .i64 2, .int .i64 ((vv : Int) - 80)]) (by unfold maxLen; simp)) (by simp) (Nat.le_trans HF.out.size ((Fr.refl wr).alloc (S := fun _ => False) _).size)
                        obtain ⟨a7, n7, c7, rfl, rfl⟩ := own_shape ho7
                        have hkp := (Vals.of_own HOW.out).2
                        have HF7 := Lib.hid ((HF.out.alloc _).trans' F7 (fun k hk e => by have := (hkp k e).1; omega))
                        have HRUN := Lib.hid hrun
                        have HO7 := Lib.hid ho7
                        clear hrun ho7 F7 hkp
                        go_wp2_with (at_builtin; refine wpList_append_run (by rfl) (.tmp 49) (.tmp 52) 105 (by rfl) _ w7 (by exact HRUN.out) ?_)
                        go_roundg (l.length - (i + 1))
                        case measure => rw [HG.out]; omega
                        case rel => exact ⟨[2, ((vv : Int) - 80)], true, 0, i + 1, a7, c7, rfl, by omega, rfl, rfl, rfl, by go_num, by simp, by omega, by simp, HO7.out, HF7.out, by rw [HR3.out, HAD.out]; rfl⟩
                  · have q9 : (0 : Int) < (o.length : Int) := by omega
                    have q10 : 0 < o.length := by omega
                    have HAD := Lib.hid (addS_snoc (o := o) (by rintro rfl; exact h0 rfl) vv)
                    obtain ⟨a7, c7, w7, hrun, ho7, F7, hw7⟩ := add_int HOW.out HF.out.size (by omega) (vv : Int) wr.heap.size ((Fr.refl wr).alloc (.cells #[.int .i64 vv] 3)) (Blk.new wr 3 #[.int .i64 vv])
                    have hkp := (Vals.of_own HOW.out).2
                    have HF7 := Lib.hid (HF.out.trans' F7 (fun k hk e => by have := (hkp k e).1; omega))
                    have HRUN := Lib.hid hrun
                    have HO7 := Lib.hid ho7
                    clear hrun ho7 F7 hkp h0 hvm hw7
                    go_wp2_with (at_builtin; refine wpList_append_run (by rfl) (.tmp 58) (.tmp 60) 105 (by rfl) _ w7 (by exact HRUN.out) ?_)
                    go_roundg (l.length - (i + 1))
                    case measure => rw [HG.out]; omega
                    case rel => exact ⟨o ++ [(vv : Int)], true, 0, i + 1, a7, c7, rfl, by omega, by rw [List.length_append]; rfl, rfl, rfl, by go_num, by simp, by omega, by rw [List.length_append]; exact ho31, by rw [List.length_append]; exact HO7.out, HF7.out, by rw [HR3.out, HAD.out]; rfl⟩
              · have q6 : (128 : Int) ≤ (x.toNat : Int) := by omega
                rw [if_neg hx7] at hr
                by_cases hlast : i + 1 = l.length
                · have q7 : ((i : Int) == (l.length : Int) - 1) = true := by simp; omega
                  rw [List.drop_eq_nil_of_le (by omega)] at hr
                  simp only [oidStS, Nat.one_ne_zero, ite_false] at hr
                  have HR3 := Lib.hid hr
                  clear hr HR2 hvm hlast
                  go_wp2_with fail
                  refine bodyPost_ret (v := .tuple #[.slice none 0 0, .int .i64 6]) (by simp [results, Tryz.results85, go_sem]) rfl ⟨?_, HF.out⟩
                  rw [HR3.out]
                  rfl
                · have q7 : ((i : Int) == (l.length : Int) - 1) = false := by simp; omega
                  have HR3 := Lib.hid hr
                  have HVM := Lib.hid hvm
                  clear hr HR2 hvm
                  go_wp2_with fail
                  go_roundg (l.length - (i + 1))
                  case measure => rw [HG.out]; omega
                  case rel => exact ⟨o, false, vv, i + 1, a, c, rfl, by omega, rfl, rfl, rfl, by go_num, fun _ => by omega, Nat.not_lt.1 HVM.out, ho32, HOW.out, HF.out, HR3.out⟩
      · have q3 : ¬ (i : Int) < (l.length : Int) := by omega
        obtain rfl : fr = true := by
          cases fr
          · exact absurd (HFR.out rfl) hil
          · rfl
        have hr := HR.out
        rw [List.drop_eq_nil_of_le (by omega)] at hr
        simp only [oidStS, ↓reduceIte] at hr
        have HR3 := Lib.hid hr
        clear hr HR
        go_wp2_with fail
        refine bodyPost_ret (v := .tuple #[.slice a o.length c, .int .i64 0]) (by simp [results, Tryz.results85, go_sem]) rfl ⟨?_, HF.out⟩
        rw [HR3.out]
        exact ⟨a, c, rfl, HOW.out⟩
end Go.Proofs.YtacekpdjapgfcaaGreatDoor

namespace Go.Proofs.YtacekpdjapgfcaaGreatDoor
open Go Go.RowKit Go.Q
set_option linter.unusedSimpArgs false
set_option maxRecDepth 20000 in
set_option maxHeartbeats 8000000 in
theorem r15Right_any (u : Value) (g : Gen) (w : World) (h : GenAt w u g) (hf : fewG g) :
    Calls Tryz.prog 37 #[u] w fun e w' => e = .returned (.bool (genOk g)) ∧ Fr (fun _ => False) w w' := by
  obtain ⟨ab, cb, an, cn, rfl, hb, hn⟩ := h.form
  obtain ⟨k, b, n⟩ := g
  obtain ⟨f1, f2⟩ := hf
  simp only at hb hn f1 f2 ⊢
  obtain ⟨z, hz⟩ : ∃ z, z = w.heap.size := ⟨_, rfl⟩
  have HZ := Lib.hid hz
  have F0 : Fr (fun _ => False) w (w.alloc (.cells #[.int .i64 k, .slice ab b.length cb, .slice an n.length cn] 46)) := (Fr.refl w).alloc _
  have B := Blk.new w 46 #[.int .i64 k, .slice ab b.length cb, .slice an n.length cn]
  rw [← hz] at B
  have HB := Lib.hid (hb.old F0)
  have HN := Lib.hid (hn.old F0)
  have HF0 := Lib.hid F0
  have HF2 := Lib.hid f2
  have hg : genOk ⟨k, b, n⟩ = if k = 4 then decide (b.length = 0) && nameOk n else decide (n.length = 0) && contB k b := rfl
  have HG := Lib.hid hg
  clear h hb hn F0 f2 hg hz
  go_enter Tryz.func37, Tryz.ntmps37
  go_upto_region 1 with fail
  rw [← HZ.out]
  generalize (w.alloc (.cells #[.int .i64 k, .slice ab b.length cb, .slice an n.length cn] 46)) = w0 at *
  have e0 := B.cell 0
  have e1 := B.cell 1
  have e2 := B.cell 2
  simp only [List.getElem?_toArray, List.getElem?_cons_succ, List.getElem?_cons_zero] at e0 e1 e2
  have hk : k = 4 ∨ ((k == 4) = false ∧ (k = 1 ∨ k = 2 ∨ k = 6)) ∨ k = 7 ∨ k = 8 ∨ ((k == 4) = false ∧ (k = 0 ∨ k = 3 ∨ k = 5)) ∨ ((k == 0) = false ∧ (k == 1) = false ∧ (k == 2) = false ∧ (k == 3) = false ∧ (k == 4) = false ∧ (k == 5) = false ∧ (k == 6) = false ∧ (k == 7) = false ∧ (k == 8) = false) := by
    simp only [beq_eq_false_iff_ne]
    omega
  by_cases h4 : k = 4
  · subst h4
    rw [if_pos rfl] at HG
    clear hk
    by_cases h0 : b.length = 0
    · have q1 : ((b.length : Int) == 0) = true := by rw [h0]; rfl
      have q2 : (b.length == 0) = true := by rw [h0]; rfl
      rw [decide_eq_true h0, Bool.true_and] at HG
      clear h0
      go_wp2_with fail
      refine (r14Right_any _ n w0 HN.out HF2.out).mono ?_
      rintro e w1 ⟨rfl, F1⟩
      go_wp2_with fail
      go_ret
      exact ⟨by rw [HG.out]; rfl, HF0.out.trans F1⟩
    · have q1 : ((b.length : Int) == 0) = false := beq_eq_false_iff_ne.2 (by omega)
      have q2 : (b.length == 0) = false := beq_eq_false_iff_ne.2 h0
      rw [decide_eq_false h0, Bool.false_and] at HG
      clear h0
      go_wp2_with fail
      go_ret
      exact ⟨by rw [HG.out]; rfl, HF0.out⟩
  have k4 : (k == 4) = false := beq_eq_false_iff_ne.2 h4
  rw [if_neg h4] at HG
  by_cases h0 : n.length = 0
  case neg =>
    have q1 : (0 : Int) < (n.length : Int) := by omega
    rw [decide_eq_false h0, Bool.false_and] at HG
    clear hk
    go_wp2_with fail
    go_ret
    exact ⟨by rw [HG.out]; rfl, HF0.out⟩
  rw [decide_eq_true h0, Bool.true_and] at HG
  have q0 : ¬ (0 : Int) < (n.length : Int) := by omega
  clear h4
  rcases hk with rfl | ⟨-, hk⟩ | rfl | rfl | ⟨-, hk⟩ | ⟨k0, k1, k2, k3, -, k5, k6, k7, k8⟩
  · exact absurd k4 (by decide)
  · have HC := Lib.hid (show contB k b = plainB b from if_pos hk)
    have hp : plainB b = (decide (0 < b.length) && b.all (fun c => decide (c.toNat ≤ 127))) := rfl
    have HP := Lib.hid hp
    clear hp h0
    rcases hk with rfl | rfl | rfl
    all_goals
      go_wp2_with fail
      go_loopg [4] b.length (fun g i wr => ∃ j : Nat, g = b.length - j ∧ j ≤ b.length ∧ i = .int .i64 j ∧ (∀ c ∈ b.take j, c.toNat ≤ 127) ∧ wr = w0)
      case atStart => exact ⟨0, rfl, Nat.zero_le _, rfl, by simp, rfl⟩
      case round =>
        obtain ⟨j, hg, hj, rfl, hall, rfl⟩ := hrel
        have HGG := Lib.hid hg
        have HA := Lib.hid hall
        clear hg hall
        by_cases hjl : j < b.length
        · obtain ⟨a0, c0, he, -, -, hx⟩ := HB.out.form
          simp only [Value.slice.injEq, true_and] at he
          obtain ⟨rfl, rfl⟩ := he
          obtain ⟨kk, o, rfl, hy⟩ := hx (by omega)
          obtain ⟨c, hc1⟩ : ∃ c, b[j]? = some c := ⟨_, List.getElem?_eq_getElem hjl⟩
          have ec := hy j c hc1
          have HCC := Lib.hid hc1
          have r1 : (0 : Int) ≤ (j : Int) := by omega
          have r2 : (j : Int) < (b.length : Int) := by omega
          clear hx hy hc1
          by_cases hc : 127 < c.toNat
          · have s1 : (127 : Int) < (c.toNat : Int) := by omega
            have hf : b.all (fun c => decide (c.toNat ≤ 127)) = false := List.all_eq_false.2 ⟨c, List.mem_of_getElem? HCC.out, by simp; omega⟩
            have HN2 := Lib.hid (HP.out.trans (by rw [hf, Bool.and_false]))
            clear hf hc
            go_wp2_with fail
            go_ret
            exact ⟨by rw [HG.out, HC.out, HN2.out]; rfl, HF0.out⟩
          · have s1 : ¬ (127 : Int) < (c.toNat : Int) := by omega
            have HN2 := Lib.hid (show ∀ x ∈ b.take (j + 1), x.toNat ≤ 127 from fun x hx => by
              rw [List.take_add_one, HCC.out] at hx
              rcases List.mem_append.1 hx with h | h
              · exact HA.out x h
              · simp at h
                subst h
                omega)
            clear hc
            go_wp2_with fail
            go_roundg (b.length - (j + 1))
            case measure => rw [HGG.out]; omega
            case rel => exact ⟨j + 1, rfl, by omega, by go_num, HN2.out, rfl⟩
        · have hall := HA.out
          rw [List.take_of_length_le (by omega)] at hall
          have HN2 := Lib.hid (HP.out.trans (by rw [List.all_eq_true.2 (fun x hx => decide_eq_true (hall x hx)), Bool.and_true]))
          clear hall
          go_wp2_with fail
          go_ret
          exact ⟨by rw [HG.out, HC.out, HN2.out]; rfl, HF0.out⟩
  · have HC := Lib.hid (show contB 7 b = decide (b.length = 4 ∨ b.length = 16) from rfl)
    have hc : ((b.length : Int) == 4) = true ∧ (b.length == 4) = true ∧ contB 7 b = true ∨ ((b.length : Int) == 4) = false ∧ (b.length == 4) = false ∧ ((b.length : Int) == 16) = decide (b.length = 16) ∧ (b.length == 16) = decide (b.length = 16) ∧ contB 7 b = decide (b.length = 16) := by
      by_cases h4 : b.length = 4
      · exact .inl ⟨by rw [h4]; rfl, by rw [h4]; rfl, HC.out.trans (decide_eq_true (.inl h4))⟩
      · refine .inr ⟨beq_eq_false_iff_ne.2 (by omega), beq_eq_false_iff_ne.2 h4, ?_, ?_, HC.out.trans (decide_eq_decide.2 (by omega))⟩
        · by_cases h : b.length = 16
          · rw [h]; rfl
          · rw [decide_eq_false h]; exact beq_eq_false_iff_ne.2 (by omega)
        · by_cases h : b.length = 16
          · rw [h]; rfl
          · rw [decide_eq_false h]; exact beq_eq_false_iff_ne.2 h
    rcases hc with ⟨c1, c2, c3⟩ | ⟨c1, c2, c3, c4, c5⟩
    case' inl => have HC2 := Lib.hid c3
    case' inr =>
      have HC2 := Lib.hid c5
      generalize decide (b.length = 16) = d16 at *
    all_goals
      go_wp2_with fail
      go_ret
      exact ⟨by rw [HG.out, HC2.out]; rfl, HF0.out⟩
  · have HC := Lib.hid (show contB 8 b = oidB b from rfl)
    have HO := Lib.hid (r04Parse_any _ b _ HB.out (by omega))
    go_wp2_with fail
    refine HO.out.mono ?_
    rintro e w1 ⟨hout, F1⟩
    have HF1 := Lib.hid (HF0.out.trans F1)
    clear F1 HO
    unfold oidParseOut at hout
    cases hr : oidParseS b with
    | error x =>
      rw [hr] at hout
      subst hout
      have hx1 : (x == 0) = false := beq_eq_false_iff_ne.2 (oidParse_nz hr)
      have HS := Lib.hid (show oidB b = false by unfold oidB; rw [hr])
      clear hr
      go_wp2_with fail
      go_ret
      exact ⟨by rw [HG.out, HC.out, HS.out]; rfl, HF1.out⟩
    | ok o =>
      rw [hr] at hout
      obtain ⟨ao, co, rfl, -⟩ := hout
      have HS := Lib.hid (show oidB b = true by unfold oidB; rw [hr])
      clear hr
      go_wp2_with fail
      go_ret
      exact ⟨by rw [HG.out, HC.out, HS.out]; rfl, HF1.out⟩
  · have HC := Lib.hid (show contB k b = wholesB b by
      unfold contB
      rw [if_neg (by omega), if_neg (by omega), if_neg (by omega), if_pos hk])
    have HO := Lib.hid (r08Wholes_any _ b _ HB.out (by omega))
    rcases hk with rfl | rfl | rfl
    all_goals
      go_wp2_with fail
      refine HO.out.mono ?_
      rintro e w1 ⟨hout, F1⟩
      have HF1 := Lib.hid (HF0.out.trans F1)
      unfold wholesOut at hout
      cases hr : allS b with
      | error x =>
        rw [hr] at hout
        subst hout
        have hx1 : (x == 0) = false := beq_eq_false_iff_ne.2 (allS_pos hr)
        have HS := Lib.hid (show wholesB b = false by unfold wholesB; rw [hr])
        clear hr
        go_wp2_with fail
        go_ret
        exact ⟨by rw [HG.out, HC.out, HS.out]; rfl, HF1.out⟩
      | ok ls =>
        rw [hr] at hout
        obtain ⟨a, cap, rfl⟩ := hout
        have HS := Lib.hid (show wholesB b = decide (0 < ls.length) by unfold wholesB; rw [hr])
        clear hr
        generalize ls.length = m at *
        go_wp2_with fail
        go_ret
        exact ⟨by rw [HG.out, HC.out, HS.out]; rfl, HF1.out⟩
  · have HC := Lib.hid (show contB k b = false by
      simp only [beq_eq_false_iff_ne] at k0 k1 k2 k3 k5 k6 k7 k8
      unfold contB
      rw [if_neg (by omega), if_neg (by omega), if_neg (by omega), if_neg (by omega)])
    go_wp2_with fail
    go_ret
    exact ⟨by rw [HG.out, HC.out]; rfl, HF0.out⟩
end Go.Proofs.YtacekpdjapgfcaaGreatDoor

namespace Go.Proofs.YtacekpdjapgfcaaGreatDoor
open Go Go.RowKit Go.Q
set_option linter.unusedSimpArgs false
def oidReadOut (w w' : World) (c : Nat) (K : Nat → Prop) (bs : List UInt8) (p : Nat) (r : Except Int (List Int × Nat)) (e : Ending) : Prop :=
  match r with
  | .ok (o, k) => ∃ a cc, e = .returned (.tuple #[.slice a o.length cc, .int .i64 0]) ∧ w'.ownsRow w.heap.size 3 1 (.slice a o.length cc) o.length (intCells o) ∧ CurAt w' c K bs (p + k)
  | .error x => e = .returned (.tuple #[.slice none 0 0, .int .i64 x]) ∧ CurAt w' c K bs p
set_option maxRecDepth 20000 in
set_option maxHeartbeats 2000000 in
theorem oidRead_any {w : World} {c : Nat} {K : Nat → Prop} {bs : List UInt8} {p : Nat} (h : CurAt w c K bs p) :
    Calls Tryz.prog 240 #[pt c] w fun e w' => oidReadOut w w' c K bs p (oidReadS (bs.drop p)) e ∧ Fr (fun k => k = c) w w' := by
  have hcl := h.lt
  have hsm := h.small
  have H := Lib.hid (h.step (K' := fun k => K k ∨ w.heap.size ≤ k) (Fr.refl w) (S := fun _ => False) (fun _ _ h => h.elim) (fun _ h => h))
  have HR := Lib.hid (show oidReadS (bs.drop p) = match openS (tagOf 6) (bs.drop p) with | .error e => .error e | .ok (x, k) => match oidParseS x with | .error e => .error e | .ok o => .ok (o, k) from rfl)
  have HA := Lib.hid (at_any H.out)
  clear h
  go_enter Tryz.func240, Tryz.ntmps240
  go_wp2_with fail
  refine HA.out.mono ?_
  rintro e w0 ⟨rfl, rfl⟩
  clear HA
  go_wp2_with fail
  refine (headOf_any 6 _).mono ?_
  rintro e w1 ⟨rfl, F1⟩
  have HO := Lib.hid (open_any (H.out.old F1) (tagOf 6))
  have HF1 := Lib.hid (F1.mono (T := fun k => k = c) (fun _ _ h => h.elim))
  have hs1 := F1.size
  clear F1
  go_wp2_with fail
  refine HO.out.mono ?_
  rintro e w2 ⟨hout, F2⟩
  have HF2 := Lib.hid (HF1.out.trans F2)
  have hs2 := HF2.out.size
  clear HO H F2 HF1
  unfold OpenOut at hout
  cases ho : openS (tagOf 6) (bs.drop p) with
  | error x =>
    have hx := openS_nz ho
    have hx1 : (x == 0) = false := beq_eq_false_iff_ne.2 hx
    have hx2 : (x != 0) = true := by simpa using hx
    have hr := HR.out
    rw [ho] at hout hr
    obtain ⟨rfl, C2⟩ := hout
    have HC2 := Lib.hid (C2.step (K' := K) (Fr.refl w2) (S := fun _ => False) (fun _ _ h => h.elim) (fun k hk => .inl (.inl hk)))
    have HR2 := Lib.hid hr
    clear ho hr HR C2 hx
    go_wp2_with fail
    refine bodyPost_ret (v := .tuple #[.slice none 0 0, .int .i64 x]) (by simp [results, Tryz.results240, go_sem]) rfl ⟨?_, HF2.out⟩
    rw [HR2.out]
    exact ⟨rfl, HC2.out⟩
  | ok yk =>
    obtain ⟨y, k⟩ := yk
    have hr := HR.out
    rw [ho] at hout hr
    obtain ⟨g, rfl, ⟨hg, hN⟩, C2⟩ := hout
    have hyl : y.length ≤ 16777216 := (open_back ho tag6).2.1
    have HR2 := Lib.hid hr
    have HC2 := Lib.hid C2
    have HRE := Lib.hid (rest_any hN)
    rw [List.drop_zero, Nat.sub_zero] at HRE
    clear ho hr HR C2
    go_wp2_with fail
    refine HRE.out.mono ?_
    rintro e w3 ⟨v, rfl, hown, C3, F3⟩
    have HV := Lib.hid (Vals.of_own hown).1
    obtain ⟨a, m, cap, rfl, rfl⟩ := own_shape hown
    have HC3 := Lib.hid (HC2.out.step (K' := fun k => K k ∨ w.heap.size ≤ k) F3 (fun k _ e => .inr (by omega)) (fun k hk => .inl hk))
    have HF3 := Lib.hid (HF2.out.trans' F3 (fun i hi e => by omega))
    have hs3 := F3.size
    have HP := Lib.hid (oidParse_any _ y w3 HV.out (by omega))
    clear hown C3 F3 HRE HC2 HF2 hN
    go_wp2_with fail
    refine HP.out.mono ?_
    rintro e w4 ⟨hout, F4⟩
    have HC4 := Lib.hid (HC3.out.old F4)
    have HF4 := Lib.hid (HF3.out.trans (F4.mono (fun _ _ h => h.elim)))
    clear F4 HC3 HF3 HP
    unfold oidParseOut at hout
    cases ho : oidParseS y with
    | error x =>
      have hx := oidParse_nz ho
      have hx1 : (x == 0) = false := beq_eq_false_iff_ne.2 hx
      have hx2 : (x != 0) = true := by simpa using hx
      have hr := HR2.out
      rw [ho] at hout
      simp only [ho] at hr
      subst hout
      have HR3 := Lib.hid hr
      have HB := Lib.hid (back_any HC4.out p (by omega))
      clear ho hr hx
      go_wp2_with fail
      refine HB.out.mono ?_
      rintro e w5 ⟨rfl, C5, F5⟩
      have HC5 := Lib.hid (C5.step (K' := K) (Fr.refl w5) (S := fun _ => False) (fun _ _ h => h.elim) (fun k hk => .inl (.inl hk)))
      have HF5 := Lib.hid (HF4.out.trans F5)
      clear C5 F5 HB
      go_wp2_with fail
      refine bodyPost_ret (v := .tuple #[.slice none 0 0, .int .i64 x]) (by simp [results, Tryz.results240, go_sem]) rfl ⟨?_, HF5.out⟩
      rw [HR3.out]
      exact ⟨rfl, HC5.out⟩
    | ok o =>
      have hr := HR2.out
      rw [ho] at hout
      simp only [ho] at hr
      obtain ⟨ao, co, rfl, hown⟩ := hout
      have HR3 := Lib.hid hr
      have HO := Lib.hid (own_le hown (Nat.le_trans hs2 hs3))
      clear ho hr hown
      go_wp2_with fail
      refine bodyPost_ret (v := .tuple #[.slice ao o.length co, .int .i64 0]) (by simp [results, Tryz.results240, go_sem]) rfl ⟨?_, HF4.out⟩
      rw [HR3.out]
      exact ⟨ao, co, rfl, HO.out, HC4.out.step (K' := K) (Fr.refl w4) (S := fun _ => False) (fun _ _ h => h.elim) (fun k hk => .inl (.inl hk))⟩
def valueOut (w w' : World) (c : Nat) (K : Nat → Prop) (bs : List UInt8) (p : Nat) (r : Except Int (Tag × Nat × Nat)) (e : Ending) : Prop :=
  match r with
  | .ok (_, _, n) => ∃ a cc, e = .returned (.tuple #[.slice a n cc, .int .i64 0]) ∧ w'.ownsRow w.heap.size 5 1 (.slice a n cc) n (Lib.byteCells ((bs.drop p).take n)) ∧ CurAt w' c K bs (p + n)
  | .error x => e = .returned (.tuple #[.slice none 0 0, .int .i64 x]) ∧ ∃ q, p ≤ q ∧ CurAt w' c K bs q
set_option maxRecDepth 20000 in
set_option maxHeartbeats 2000000 in
theorem value_any {w : World} {c : Nat} {K : Nat → Prop} {bs : List UInt8} {p : Nat} (h : CurAt w c K bs p) :
    Calls Tryz.prog 241 #[.agg #[pt c]] w fun e w' => valueOut w w' c K bs p (oneS (bs.drop p)) e ∧ Fr (fun k => k = c) w w' := by
  have hcl := h.lt
  have hsm := h.small
  have hle := h.le
  have F0 : Fr (fun _ => False) w (w.alloc (.cells #[pt c] 165)) := (Fr.refl w).alloc _
  have B0 := Blk.new w 165 #[pt c]
  have H := Lib.hid (h.step (K' := fun k => K k ∨ w.heap.size ≤ k) F0 (fun _ _ h => h.elim) (fun _ h => h))
  have HF0 := Lib.hid (F0.mono (T := fun k => k = c) (fun _ _ h => h.elim))
  obtain ⟨b0, hb0⟩ : ∃ b0, b0 = w.heap.size := ⟨_, rfl⟩
  have hbc : b0 ≠ c := by omega
  rw [← hb0] at B0
  have HBB := Lib.hid B0
  have e0 : (w.alloc (.cells #[pt c] 165)).cell? ⟨b0, 0, none⟩ = some (pt c) := B0.cell 0
  have HB0 := Lib.hid hb0
  have HA := Lib.hid (at_any H.out)
  have HRD := Lib.hid (headRead_any H.out)
  clear h F0 B0 hb0
  go_enter Tryz.func241, Tryz.ntmps241
  go_upto_region 1 with fail
  rw [← HB0.out]
  generalize hw0 : (w.alloc (.cells #[pt c] 165)) = w0 at *
  clear hw0
  go_wp2_with fail
  refine HA.out.mono ?_
  rintro e w0' ⟨rfl, rfl⟩
  clear HA
  go_wp2_with fail
  refine HRD.out.mono ?_
  rintro e w1 ⟨⟨⟨tc, tn, tm⟩, n, x, rfl, ht⟩, C1, F1⟩
  rw [show tagV ⟨tc, tn, tm⟩ = .agg #[.int .i64 tc, .int .i64 tn, .bool tm] from rfl]
  have HT := Lib.hid ht
  have F2 : Fr (fun _ => False) w1 (w1.alloc (.cells #[.int .i64 tc, .int .i64 tn, .bool tm] 97)) := (Fr.refl w1).alloc _
  have HC2 := Lib.hid (C1.old F2)
  have HF2 := Lib.hid ((HF0.out.trans F1).trans (F2.mono (T := fun k => k = c) (fun _ _ h => h.elim)))
  replace e0 := ((HBB.out.fr F1 hbc).fr F2 (fun h => h)).cell 0
  simp at e0
  clear ht C1 F1 F2 HRD HF0 H
  go_upto_region 3 with fail
  generalize (w1.alloc (.cells #[.int .i64 tc, .int .i64 tn, .bool tm] 97)) = w2 at *
  by_cases hx : x = 0
  · subst hx
    have hok : ∃ u k, readS (bs.drop p) = .ok (u, n, k) := by
      have ht := HT.out
      cases hr : readS (bs.drop p) with
      | error e => rw [hr] at ht; exact absurd ht.symm (readS_err hr)
      | ok vk => obtain ⟨v, m, k⟩ := vk; rw [hr] at ht; exact ⟨v, k, by rw [ht.2.1]⟩
    obtain ⟨u, k, hk⟩ := hok
    have hkl := (readS_le hk)
    rw [List.length_drop] at hkl
    have hc := HC2.out
    rw [hk] at hc
    have HC : Hid (CurAt w2 c (fun k => K k ∨ w.heap.size ≤ k) bs (p + k)) := Lib.hid hc
    have HL := Lib.hid (left_any HC.out)
    have HK := Lib.hid hk
    have hkk : p + k ≤ bs.length := by omega
    have hn16 := hkl.2
    clear hk hc HC2 HT hkl
    go_wp2_with fail
    refine HL.out.mono ?_
    rintro e w3 ⟨rfl, F3⟩
    have HC3 := Lib.hid (HC.out.old F3)
    have HF3 := Lib.hid (HF2.out.trans (F3.mono (T := fun k => k = c) (fun _ _ h => h.elim)))
    replace e0 := F3.cell e0 (fun h => h)
    clear F3 HL HC HF2
    by_cases hn : n ≤ bs.length - (p + k)
    · have q1 : ¬ ((bs.length - (p + k) : Nat) : Int) < (n : Int) := by omega
      have q2 : ¬ bs.length - (p + k) < n := by omega
      have HO := Lib.hid (oneOk HK.out (by rw [List.length_drop]; omega))
      have HA := Lib.hid (at_any HC3.out)
      have hkn : k + n ≤ bs.length - p := by omega
      have HKN := Lib.hid hkn
      have hkn2 : k + n ≤ 1099511627776 := by omega
      clear hkn
      generalize bs.length - (p + k) = lq at *
      go_wp2_with fail
      refine HA.out.mono ?_
      rintro e w0' ⟨rfl, rfl⟩
      have hw1 : wrap64 (((p + k : Nat) : Int) - (p : Int)) = (k : Int) := by unfold wrap64; omega
      have HB := Lib.hid (back_any HC3.out p (by omega))
      generalize ((p + k : Nat) : Int) = pk at *
      go_upto_region 8 with fail
      simp only [hw1]
      clear hw1
      go_wp2_with fail
      refine HB.out.mono ?_
      rintro e w4 ⟨rfl, C4, F4⟩
      have HTK := Lib.hid (take_ok C4 (k + n) HKN.out)
      rw [Int.natCast_add] at HTK
      have HF4 := Lib.hid (HF3.out.trans F4)
      have hs4 := HF4.out.size
      replace e0 := F4.cell e0 hbc
      have b1 : (0 : Int) ≤ (k : Int) + (n : Int) := by omega
      have b2 : (k : Int) + (n : Int) ≤ 1099511627776 := by omega
      clear C4 F4 HB HC3 HF3 HA
      go_wp2_with fail
      refine HTK.out.mono ?_
      rintro e w5 ⟨v, rfl, hown, C5, F5⟩
      obtain ⟨a, m, cap, rfl, rfl⟩ := own_shape hown
      have HOW := Lib.hid (own_le hown hs4)
      have HC := Lib.hid (C5.step (K' := K) (Fr.refl w5) (S := fun _ => False) (fun _ _ h => h.elim) (fun k hk => .inl (.inl hk)))
      have HF5 := Lib.hid (HF4.out.trans F5)
      clear hown C5 F5 HTK HF4
      go_wp2_with fail
      refine bodyPost_ret (v := .tuple #[.slice a (k + n) cap, .int .i64 0]) (by simp [results, Tryz.results241, go_sem]) rfl ⟨?_, HF5.out⟩
      rw [HO.out]
      exact ⟨a, cap, rfl, HOW.out, HC.out⟩
    · have HO := Lib.hid (oneEnd HK.out (by rw [List.length_drop]; omega))
      have q1 : ((bs.length - (p + k) : Nat) : Int) < (n : Int) := by omega
      have q2 : bs.length - (p + k) < n := by omega
      have HC := Lib.hid (HC3.out.step (K' := K) (Fr.refl w3) (S := fun _ => False) (fun _ _ h => h.elim) (fun k hk => .inl (.inl hk)))
      generalize bs.length - (p + k) = lq at *
      go_wp2_with fail
      refine bodyPost_ret (v := .tuple #[.slice none 0 0, .int .i64 3]) (by simp [results, Tryz.results241, go_sem]) rfl ⟨?_, HF3.out⟩
      rw [HO.out]
      exact ⟨rfl, _, Nat.le_add_right p k, HC.out⟩
  · have hx1 : (x == 0) = false := beq_eq_false_iff_ne.2 hx
    have hx2 : (x != 0) = true := by simpa using hx
    have herr : readS (bs.drop p) = .error x := by
      have ht := HT.out
      cases hr : readS (bs.drop p) with
      | error e => rw [hr] at ht; rw [show x = e from ht]
      | ok vk => obtain ⟨v, m, k⟩ := vk; rw [hr] at ht; exact absurd ht.2.2 hx
    have hc := HC2.out
    rw [herr] at hc
    have HO := Lib.hid (oneE herr)
    have HC := Lib.hid (hc.step (K' := K) (Fr.refl w2) (S := fun _ => False) (fun _ _ h => h.elim) (fun k hk => .inl (.inl hk)))
    clear herr hc
    go_wp2_with fail
    refine bodyPost_ret (v := .tuple #[.slice none 0 0, .int .i64 x]) (by simp [results, Tryz.results241, go_sem]) rfl ⟨?_, HF2.out⟩
    rw [HO.out]
    exact ⟨rfl, p, Nat.le_refl _, HC.out⟩
end Go.Proofs.YtacekpdjapgfcaaGreatDoor

namespace Go.Q
open Go Go.RowKit
theorem own_kept' {w : World} {base n : Nat} {e : TypeId} {v : Value} {xs : List Value} (h : w.ownsRow base e 1 v n xs) (K : Nat → Prop) (hK : ∀ k, K k → k < base) : Kept (fun W => Vals W v xs) K w := fun W f =>
  (Vals.of_own (Go.Proofs.YtacekpdjapgfcaaGreatDoor.ownsRow_fr h f (fun k hk hs => by have := ((Vals.of_own h).2 k hk).1; have := hK k hs; omega))).1
theorem partRead_e1 {l : List UInt8} {x : Int} (h : openS (tagOf 16) l = .error x) : partReadS l = .error x := by unfold partReadS; rw [h]
theorem partRead_e2 {l y : List UInt8} {m : Nat} {x : Int} (h : openS (tagOf 16) l = .ok (y, m)) (h2 : oidReadS y = .error x) : partReadS l = .error x := by unfold partReadS; rw [h]; simp only [h2]
theorem partRead_e3 {l y : List UInt8} {m q : Nat} {o : List Int} {x : Int} (h : openS (tagOf 16) l = .ok (y, m)) (h2 : oidReadS y = .ok (o, q)) (h3 : oneS (y.drop q) = .error x) : partReadS l = .error x := by unfold partReadS; rw [h]; simp only [h2, h3]
theorem partRead_ok {l y : List UInt8} {m q k n : Nat} {o : List Int} {t : Tag} (h : openS (tagOf 16) l = .ok (y, m)) (h2 : oidReadS y = .ok (o, q)) (h3 : oneS (y.drop q) = .ok (t, k, n)) : partReadS l = if n < y.length - q then .error 7 else .ok (⟨o, y.drop q⟩, m) := by unfold partReadS; rw [h]; simp only [h2, h3]
theorem oneS_le {l : List UInt8} {t : Tag} {k n : Nat} (h : oneS l = .ok (t, k, n)) : n ≤ l.length := by
  unfold oneS at h
  split at h
  · cases h
  · rename_i u n' k' hr
    have := readS_le hr
    split at h
    · cases h
    · simp only [Except.ok.injEq, Prod.mk.injEq] at h
      omega
end Go.Q
namespace Go.Proofs.YtacekpdjapgfcaaGreatDoor
open Go Go.RowKit Go.Q
set_option linter.unusedSimpArgs false
def attrOut (w w' : World) (c : Nat) (K : Nat → Prop) (bs : List UInt8) (p : Nat) (r : Except Int (Part × Nat)) (e : Ending) : Prop :=
  match r with
  | .ok (q, m) => ∃ ao co av cv, e = .returned (.tuple #[.agg #[.slice ao q.o.length co, .slice av q.b.length cv], .int .i64 0]) ∧ Kept (fun W => Ints W (.slice ao q.o.length co) q.o ∧ Bytes W (.slice av q.b.length cv) q.b) (fun k => k < w.heap.size) w' ∧ CurAt w' c K bs (p + m)
  | .error x => e = .returned (.tuple #[.agg #[.slice none 0 0, .slice none 0 0], .int .i64 x]) ∧ x ≠ 0 ∧ ∃ q, p ≤ q ∧ CurAt w' c K bs q
set_option maxRecDepth 20000 in
set_option maxHeartbeats 4000000 in
theorem attr_any {w : World} {c : Nat} {K : Nat → Prop} {bs : List UInt8} {p : Nat} (h : CurAt w c K bs p) :
    Calls Tryz.prog 191 #[.agg #[pt c]] w fun e w' => attrOut w w' c K bs p (partReadS (bs.drop p)) e ∧ Fr (fun k => k = c) w w' := by
  have hcl := h.lt
  obtain ⟨b0, hb0⟩ : ∃ b0, b0 = w.heap.size := ⟨_, rfl⟩
  have F0 : Fr (fun _ => False) w ((w.alloc (.cells #[pt c] 165)).alloc (.cells #[.slice none 0 0, .slice none 0 0] 108)) := ((Fr.refl w).alloc _).alloc _
  have B0 := (Blk.new w 165 #[pt c]).alloc (.cells #[.slice none 0 0, .slice none 0 0] 108)
  have BR := Blk.new (w.alloc (.cells #[pt c] 165)) 108 #[.slice none 0 0, .slice none 0 0]
  rw [World.size_alloc] at BR
  have H := Lib.hid (h.step (K' := fun k => K k ∨ w.heap.size ≤ k) F0 (fun _ _ h => h.elim) (fun _ h => h))
  rw [← hb0] at B0 BR
  have hbc : b0 ≠ c := by omega
  have hrc : b0 + 1 ≠ c := by omega
  have HB0 := Lib.hid hb0
  clear h hb0
  go_enter Tryz.func191, Tryz.ntmps191
  go_upto_region 1 with fail
  rw [← HB0.out]
  generalize ((w.alloc (.cells #[pt c] 165)).alloc (.cells #[.slice none 0 0, .slice none 0 0] 108)) = w0 at *
  have hs0 := F0.size
  have hrl := BR.lt
  have HF0 := Lib.hid (F0.mono (T := fun k => k = c) (fun _ _ h => h.elim)).drew
  have HBR := Lib.hid BR.drew
  have HH := Lib.hid (H.out.old (Fr.refl w0).drew)
  have e0 : w0.drew.cell? ⟨b0, 0, none⟩ = some (pt c) := B0.cell 0
  have hd0 : w0.drew.heap.size = w0.heap.size := rfl
  clear F0 B0 BR H
  cases ho : openS (tagOf 16) (bs.drop p) with
  | error x =>
    have hx := openS_nz ho
    have hx1 : (x == 0) = false := beq_eq_false_iff_ne.2 hx
    have hx2 : (x != 0) = true := by simpa using hx
    have HP := Lib.hid (partRead_e1 ho)
    have HX := Lib.hid hx
    have HE := Lib.hid (fun w1 (C : CurAt w1 c (fun k => K k ∨ w.heap.size ≤ k) bs p) => open_err C (tagOf 16) ho)
    clear ho hx
    go_region_held3 (fun w' => w'.cell? ⟨b0, 0, none⟩ = some (pt c)) (exact e0) (first
      | (go_at_call 56; refine (headOf_any 16 _).mono ?_; rintro e w1 ⟨rfl, F1⟩; replace e0 := F1.cell e0 (fun h => h); have HO := Lib.hid (HE.out w1 (HH.out.old F1)))
      | (go_at_call 79; refine HO.out.mono ?_; rintro e w2 ⟨rfl, C2, F2⟩; replace e0 := F2.cell e0 hbc))
    have BR := (HBR.out.fr F1 (fun h => h)).fr F2 hrc
    have HF2 := Lib.hid ((HF0.out.trans (F1.mono (fun _ _ h => h.elim))).trans F2)
    have HC2 := Lib.hid C2
    have SR := BR.cell
    have ZR := BR.frozen
    clear C2 F2 F1 HO HE HH HBR
    go_wp2_with fail
    obtain ⟨B5, F5⟩ := set2 BR (.slice none 0 0) (.slice none 0 0)
    have hb := HB0.out
    have C5 := HC2.out.step (K' := K) F5 (fun k _ e => .inr (by omega)) (fun _ h => .inl (.inl h))
    have G5 := HF2.out.trans' F5 (fun k hk e => by omega)
    generalize ((w2.setCell ⟨b0 + 1, 0, none⟩ (.slice none 0 0)).setCell ⟨b0 + 1, 1, none⟩ (.slice none 0 0)) = w9 at *
    have n0 := B5.cell 0
    have n1 := B5.cell 1
    simp at n0 n1
    refine bodyPost_ret (v := .tuple #[.agg #[.slice none 0 0, .slice none 0 0], .int .i64 x]) (by simp [results, Tryz.results191, go_sem, n0, n1]) rfl ⟨?_, G5⟩
    rw [HP.out]
    exact ⟨rfl, HX.out, p, Nat.le_refl _, C5⟩
  | ok ym =>
    obtain ⟨y, m⟩ := ym
    have HP := Lib.hid ho
    have HE := Lib.hid (fun w1 (C : CurAt w1 c (fun k => K k ∨ w.heap.size ≤ k) bs p) => open_on C (tagOf 16) ho)
    clear ho
    go_region_held3 (fun w' => w'.cell? ⟨b0, 0, none⟩ = some (pt c)) (exact e0) (first
      | (go_at_call 56; refine (headOf_any 16 _).mono ?_; rintro e w1 ⟨rfl, F1⟩; replace e0 := F1.cell e0 (fun h => h); have HO := Lib.hid (HE.out w1 (HH.out.old F1)))
      | (go_at_call 79; refine HO.out.mono ?_; rintro e w2 ⟨⟨g, rfl, ⟨hg, hN⟩, C2⟩, F2⟩; replace e0 := F2.cell e0 hbc))
    have HBR2 := Lib.hid ((HBR.out.fr F1 (fun h => h)).fr F2 hrc)
    have HF2 := Lib.hid ((HF0.out.trans (F1.mono (fun _ _ h => h.elim))).trans F2)
    have HC2 := Lib.hid C2
    have hs1 := F1.size
    have hs2 := F2.size
    rw [hd0] at hs1
    have HN := Lib.hid (hN.step (K' := fun k => k < w1.heap.size ∨ w2.heap.size ≤ k) (Fr.refl w2) (S := fun _ => False) (fun _ _ h => h.elim) (fun _ h => h))
    have hgl := hN.lt
    have HOR := Lib.hid (oidRead_any HN.out)
    rw [List.drop_zero] at HOR
    clear C2 F2 F1 HO HE HH HBR hN
    go_wp2_with fail
    refine HOR.out.mono ?_
    rintro e w3 ⟨hout, F3⟩
    have HF3 := Lib.hid (HF2.out.trans' F3 (fun i hi e => by omega))
    have hrc2 : b0 + 1 ≠ g := by omega
    have HBR3 := Lib.hid (HBR2.out.fr F3 hrc2)
    have HC3 := Lib.hid (HC2.out.step (K' := fun k => K k ∨ w.heap.size ≤ k) F3 (fun k _ e => .inr (by omega)) (fun _ h => .inl h))
    have hs3 := F3.size
    clear F3 HF2 HBR2 HC2 HOR HN
    unfold oidReadOut at hout
    cases ho : oidReadS y with
    | error x =>
      rw [ho] at hout
      obtain ⟨rfl, -⟩ := hout
      have hx := oidRead_nz ho
      have hx1 : (x == 0) = false := beq_eq_false_iff_ne.2 hx
      have hx2 : (x != 0) = true := by simpa using hx
      have HP2 := Lib.hid (partRead_e2 HP.out ho)
      have HX := Lib.hid hx
      have BR := HBR3.out
      have SR := BR.cell
      have ZR := BR.frozen
      clear ho hx
      go_wp2_with fail
      obtain ⟨B5, F5⟩ := set2 BR (.slice none 0 0) (.slice none 0 0)
      have hb := HB0.out
      have C5 := HC3.out.step (K' := K) F5 (fun k _ e => .inr (by omega)) (fun _ h => .inl (.inl h))
      have G5 := HF3.out.trans' F5 (fun k hk e => by omega)
      generalize ((w3.setCell ⟨b0 + 1, 0, none⟩ (.slice none 0 0)).setCell ⟨b0 + 1, 1, none⟩ (.slice none 0 0)) = w9 at *
      have n0 := B5.cell 0
      have n1 := B5.cell 1
      simp at n0 n1
      refine bodyPost_ret (v := .tuple #[.agg #[.slice none 0 0, .slice none 0 0], .int .i64 x]) (by simp [results, Tryz.results191, go_sem, n0, n1]) rfl ⟨?_, G5⟩
      rw [HP2.out]
      exact ⟨rfl, HX.out, _, Nat.le_add_right p m, C5⟩
    | ok oq =>
      obtain ⟨o, q⟩ := oq
      rw [ho] at hout
      obtain ⟨ao, co, rfl, hown, C3⟩ := hout
      rw [Nat.zero_add] at C3
      have HQ := Lib.hid ho
      have HOW := Lib.hid hown
      have HVL := Lib.hid (value_any C3)
      clear ho hown C3
      go_wp2_with fail
      refine HVL.out.mono ?_
      rintro e w4 ⟨hout, F4⟩
      have HF4 := Lib.hid (HF3.out.trans' F4 (fun i hi e => by omega))
      have HBR4 := Lib.hid (HBR3.out.fr F4 hrc2)
      have HC4 := Lib.hid (HC3.out.step (K' := fun k => K k ∨ w.heap.size ≤ k) F4 (fun k _ e => .inr (by omega)) (fun _ h => .inl h))
      have HOW4 := Lib.hid (ownsRow_fr HOW.out F4 (fun k hk e => by have := ((Vals.of_own HOW.out).2 k hk).1; omega))
      have hs4 := F4.size
      clear F4 HF3 HBR3 HC3 HOW HVL
      unfold valueOut at hout
      cases hv : oneS (y.drop q) with
      | error x =>
        rw [hv] at hout
        obtain ⟨rfl, -⟩ := hout
        have hx := oneS_nz hv
        have hx1 : (x == 0) = false := beq_eq_false_iff_ne.2 hx
        have hx2 : (x != 0) = true := by simpa using hx
        have HP2 := Lib.hid (partRead_e3 HP.out HQ.out hv)
        have HX := Lib.hid hx
        have BR := HBR4.out
        have SR := BR.cell
        have ZR := BR.frozen
        clear hv hx
        go_wp2_with fail
        obtain ⟨B5, F5⟩ := set2 BR (.slice none 0 0) (.slice none 0 0)
        have hb := HB0.out
        have C5 := HC4.out.step (K' := K) F5 (fun k _ e => .inr (by omega)) (fun _ h => .inl (.inl h))
        have G5 := HF4.out.trans' F5 (fun k hk e => by omega)
        generalize ((w4.setCell ⟨b0 + 1, 0, none⟩ (.slice none 0 0)).setCell ⟨b0 + 1, 1, none⟩ (.slice none 0 0)) = w9 at *
        have n0 := B5.cell 0
        have n1 := B5.cell 1
        simp at n0 n1
        refine bodyPost_ret (v := .tuple #[.agg #[.slice none 0 0, .slice none 0 0], .int .i64 x]) (by simp [results, Tryz.results191, go_sem, n0, n1]) rfl ⟨?_, G5⟩
        rw [HP2.out]
        exact ⟨rfl, HX.out, _, Nat.le_add_right p m, C5⟩
      | ok tkn =>
        obtain ⟨t, k, n⟩ := tkn
        rw [hv] at hout
        obtain ⟨av, cv, rfl, hownv, C4⟩ := hout
        have hpr := partRead_ok HP.out HQ.out hv
        have hnl := oneS_le hv
        rw [List.length_drop] at hnl
        have HPR := Lib.hid hpr
        have HOV := Lib.hid hownv
        have HL := Lib.hid (left_any C4)
        have hql := C4.le
        clear hv hownv hpr C4
        go_wp2_with fail
        refine HL.out.mono ?_
        rintro e w5 ⟨rfl, F5⟩
        have HF5 := Lib.hid (HF4.out.trans (F5.mono (fun _ _ h => h.elim)))
        have BR := HBR4.out.fr F5 (fun h => h)
        have HC5 := Lib.hid (HC4.out.old F5)
        have HOW5 := Lib.hid (ownsRow_fr HOW4.out F5 (fun _ _ h => h))
        have HOV5 := Lib.hid (ownsRow_fr HOV.out F5 (fun _ _ h => h))
        have SR := BR.cell
        have ZR := BR.frozen
        have hs5 := F5.size
        clear F5 HF4 HBR4 HC4 HOW4 HOV HL
        by_cases hn : n < y.length - q
        · have q1 : (0 : Int) < ((y.length - (q + n) : Nat) : Int) := by omega
          have hp := HPR.out
          rw [if_pos hn] at hp
          have HP2 := Lib.hid hp
          clear hp HPR hn
          go_wp2_with fail
          obtain ⟨B5, F5⟩ := set2 BR (.slice none 0 0) (.slice none 0 0)
          have hb := HB0.out
          have C5 := HC5.out.step (K' := K) F5 (fun k _ e => .inr (by omega)) (fun _ h => .inl (.inl h))
          have G5 := HF5.out.trans' F5 (fun k hk e => by omega)
          generalize ((w5.setCell ⟨b0 + 1, 0, none⟩ (.slice none 0 0)).setCell ⟨b0 + 1, 1, none⟩ (.slice none 0 0)) = w9 at *
          have n0 := B5.cell 0
          have n1 := B5.cell 1
          simp at n0 n1
          refine bodyPost_ret (v := .tuple #[.agg #[.slice none 0 0, .slice none 0 0], .int .i64 7]) (by simp [results, Tryz.results191, go_sem, n0, n1]) rfl ⟨?_, G5⟩
          rw [HP2.out]
          exact ⟨rfl, by decide, _, Nat.le_add_right p m, C5⟩
        · have hyn : y.length - (q + n) = 0 := by omega
          have hp := HPR.out
          rw [if_neg hn] at hp
          have HP2 := Lib.hid hp
          have hyq : n = (y.drop q).length := by rw [List.length_drop]; omega
          have HYQ := Lib.hid hyq
          simp only [hyn]
          clear hp HPR hn hyn hyq
          go_wp2_with fail
          obtain ⟨B5, F5⟩ := set2 BR (.slice ao o.length co) (.slice av n cv)
          have hb := HB0.out
          have C5 := HC5.out.step (K' := K) F5 (fun k _ e => .inr (by omega)) (fun _ h => .inl (.inl h))
          have G5 := HF5.out.trans' F5 (fun k hk e => by omega)
          have k1 := own_kept' (ownsRow_fr HOW5.out F5 (fun k hk e => by have := ((Vals.of_own HOW5.out).2 k hk).1; omega)) (fun k => k < w.heap.size) (fun k hk => by omega)
          have k2 := own_kept' (ownsRow_fr HOV5.out F5 (fun k hk e => by have := ((Vals.of_own HOV5.out).2 k hk).1; omega)) (fun k => k < w.heap.size) (fun k hk => by omega)
          generalize ((w5.setCell ⟨b0 + 1, 0, none⟩ (.slice ao o.length co)).setCell ⟨b0 + 1, 1, none⟩ (.slice av n cv)) = w9 at *
          have n0 := B5.cell 0
          have n1 := B5.cell 1
          simp at n0 n1
          have hyq := HYQ.out
          rw [List.take_of_length_le (by omega)] at k2
          subst hyq
          refine bodyPost_ret (v := .tuple #[.agg #[.slice ao o.length co, .slice av (y.drop q).length cv], .int .i64 0]) (by simp [results, Tryz.results191, go_sem, n0, n1]) rfl ⟨?_, G5⟩
          rw [HP2.out]
          exact ⟨ao, co, av, cv, rfl, k1.both k2, C5⟩
end Go.Proofs.YtacekpdjapgfcaaGreatDoor

namespace Go.Q
open Go Go.RowKit
theorem cmpS_three : ∀ a b : List UInt8, cmpS a b = -1 ∨ cmpS a b = 0 ∨ cmpS a b = 1
  | [], [] => .inr (.inl rfl)
  | [], _ :: _ => .inl rfl
  | _ :: _, [] => .inr (.inr rfl)
  | x :: a, y :: b => by
    simp only [cmpS]
    split
    · exact cmpS_three a b
    · split
      · exact .inl rfl
      · exact .inr (.inr rfl)
theorem rdnRead_e1 {l : List UInt8} {x : Int} (h : openS (tagOf 17) l = .error x) : rdnReadS l = .error x := by unfold rdnReadS; rw [h]
theorem rdnRead_e2 {l y : List UInt8} {k : Nat} {x : Int} (h : openS (tagOf 17) l = .ok (y, k)) (h2 : rdnSt [] [] y = .error x) : rdnReadS l = .error x := by unfold rdnReadS; rw [h]; simp only [h2]
theorem rdnRead_ok {l y : List UInt8} {k : Nat} {r : List Part} (h : openS (tagOf 17) l = .ok (y, k)) (h2 : rdnSt [] [] y = .ok r) : rdnReadS l = .ok (r, k) := by unfold rdnReadS; rw [h]; simp only [h2]
theorem drop_ne {l : List UInt8} {q : Nat} (h : q < l.length) : l.drop q ≠ [] := by
  intro e
  have := congrArg List.length e
  rw [List.length_drop, List.length_nil] at this
  omega
end Go.Q
namespace Go.Proofs.YtacekpdjapgfcaaGreatDoor
open Go Go.RowKit Go.Q
set_option linter.unusedSimpArgs false
def rdnOut (w w' : World) (c : Nat) (K : Nat → Prop) (bs : List UInt8) (p : Nat) (r : Except Int (List Part × Nat)) (e : Ending) : Prop :=
  match r with
  | .ok (l, m) => ∃ a cc, e = .returned (.tuple #[.slice a l.length cc, .int .i64 0]) ∧ Kept (fun W => Attrs W (.slice a l.length cc) l) (fun k => k < w.heap.size) w' ∧ CurAt w' c K bs (p + m)
  | .error x => e = .returned (.tuple #[.slice none 0 0, .int .i64 x]) ∧ x ≠ 0 ∧ ∃ q, p ≤ q ∧ CurAt w' c K bs q
set_option maxRecDepth 20000 in
set_option maxHeartbeats 4000000 in
theorem rdn_any {w : World} {c : Nat} {K : Nat → Prop} {bs : List UInt8} {p : Nat} (h : CurAt w c K bs p) (hbs : bs.length ≤ 10000000) :
    Calls Tryz.prog 150 #[.agg #[pt c]] w fun e w' => rdnOut w w' c K bs p (rdnReadS (bs.drop p)) e ∧ Fr (fun k => k = c) w w' := by
  have hcl := h.lt
  obtain ⟨b0, hb0⟩ : ∃ b0, b0 = w.heap.size := ⟨_, rfl⟩
  have F0 : Fr (fun _ => False) w (w.alloc (.cells #[pt c] 165)) := (Fr.refl w).alloc _
  have B0 := Blk.new w 165 #[pt c]
  have H := Lib.hid (h.step (K' := fun k => K k ∨ w.heap.size ≤ k) F0 (fun _ _ h => h.elim) (fun _ h => h))
  rw [← hb0] at B0
  have hbc : b0 ≠ c := by omega
  have HB0 := Lib.hid hb0
  clear h hb0
  go_enter Tryz.func150, Tryz.ntmps150
  go_upto_region 1 with fail
  rw [← HB0.out]
  generalize (w.alloc (.cells #[pt c] 165)) = w0 at *
  have hs0 := F0.size
  have HF0 := Lib.hid (F0.mono (T := fun k => k = c) (fun _ _ h => h.elim)).drew
  have HH := Lib.hid (H.out.old (Fr.refl w0).drew)
  have e0 : w0.drew.cell? ⟨b0, 0, none⟩ = some (pt c) := B0.cell 0
  have hd0 : w0.drew.heap.size = w0.heap.size := rfl
  clear F0 B0 H
  cases ho : openS (tagOf 17) (bs.drop p) with
  | error x =>
    have hx := openS_nz ho
    have hx1 : (x == 0) = false := beq_eq_false_iff_ne.2 hx
    have hx2 : (x != 0) = true := by simpa using hx
    have HP := Lib.hid (rdnRead_e1 ho)
    have HX := Lib.hid hx
    have HE := Lib.hid (fun w1 (C : CurAt w1 c (fun k => K k ∨ w.heap.size ≤ k) bs p) => open_err C (tagOf 17) ho)
    clear ho hx
    go_region_held3 (fun w' => w'.cell? ⟨b0, 0, none⟩ = some (pt c)) (exact e0) (first
      | (go_at_call 56; refine (headOf_any 17 _).mono ?_; rintro e w1 ⟨rfl, F1⟩; replace e0 := F1.cell e0 (fun h => h); have HO := Lib.hid (HE.out w1 (HH.out.old F1)))
      | (go_at_call 79; refine HO.out.mono ?_; rintro e w2 ⟨rfl, C2, F2⟩; replace e0 := F2.cell e0 hbc))
    have HF2 := Lib.hid ((HF0.out.trans (F1.mono (fun _ _ h => h.elim))).trans F2)
    have HC2 := Lib.hid C2
    clear C2 F2 F1 HO HE HH
    go_wp2_with fail
    refine bodyPost_ret (v := .tuple #[.slice none 0 0, .int .i64 x]) (by simp [results, Tryz.results150, go_sem]) rfl ⟨?_, HF2.out⟩
    rw [HP.out]
    exact ⟨rfl, HX.out, p, Nat.le_refl _, HC2.out.step (K' := K) (Fr.refl w2) (S := fun _ => False) (fun _ _ h => h.elim) (fun k hk => .inl (.inl hk))⟩
  | ok ym =>
    obtain ⟨y, m⟩ := ym
    obtain ⟨-, -, hob3, hob4⟩ := open_back ho tag17
    rw [List.length_drop] at hob3
    have hyl : y.length ≤ 10000000 := by omega
    have HP := Lib.hid ho
    have HE := Lib.hid (fun w1 (C : CurAt w1 c (fun k => K k ∨ w.heap.size ≤ k) bs p) => open_on C (tagOf 17) ho)
    clear ho hob3 hob4 hbs
    go_region_held3 (fun w' => w'.cell? ⟨b0, 0, none⟩ = some (pt c)) (exact e0) (first
      | (go_at_call 56; refine (headOf_any 17 _).mono ?_; rintro e w1 ⟨rfl, F1⟩; replace e0 := F1.cell e0 (fun h => h); have HO := Lib.hid (HE.out w1 (HH.out.old F1)))
      | (go_at_call 79; refine HO.out.mono ?_; rintro e w2 ⟨⟨g, rfl, ⟨hg, hN⟩, C2⟩, F2⟩; replace e0 := F2.cell e0 hbc))
    have HF2 := Lib.hid ((HF0.out.trans (F1.mono (fun _ _ h => h.elim))).trans F2)
    have HC2 := Lib.hid C2
    have hs1 := F1.size
    have hs2 := F2.size
    rw [hd0] at hs1
    have HN := Lib.hid (hN.step (K' := fun k => k < w1.heap.size ∨ w2.heap.size ≤ k) (Fr.refl w2) (S := fun _ => False) (fun _ _ h => h.elim) (fun _ h => h))
    have hgl := hN.lt
    clear C2 F2 F1 HO HE HH hN e0 hd0
    go_wp2_with fail
    go_loopg [6, 7] y.length (fun gk u lv wr => ∃ (l : List Part) (lst : List UInt8) (q : Nat) (a : Option Addr) (cc : Nat), gk = y.length - q ∧ q ≤ y.length ∧ l.length ≤ 16 ∧ u = .slice a l.length cc ∧ GRow 2 RPart (fun k => k < w2.heap.size) 108 wr w2.heap.size (.slice a l.length cc) l ∧ Kept (fun W => Bytes W lv lst) (fun k => k < w2.heap.size) wr ∧ lst.length ≤ 1099511627776 ∧ CurAt wr g (fun k => k < w1.heap.size ∨ w2.heap.size ≤ k) y q ∧ CurAt wr c (fun k => K k ∨ w.heap.size ≤ k) bs (p + m) ∧ Fr (fun k => k = c) w wr ∧ w2.heap.size ≤ wr.heap.size ∧ rdnSt [] [] y = rdnSt l lst (y.drop q))
    case atStart => exact ⟨[], [], 0, none, 0, rfl, Nat.zero_le _, by simp, rfl, GRow.nil _ _ _ _ _ _, fun W _ => Vals.nil W, by simp, HN.out, HC2.out, HF2.out, Nat.le_refl _, rfl⟩
    case round =>
      obtain ⟨l, lst, q, a, cc, hgk, hq, hl16, rfl, hrow, hlst, hlsl, hC, hCc, hF, hsz, hR⟩ := hrel
      have HG := Lib.hid hgk
      have HRW := Lib.hid hrow
      have HLS := Lib.hid hlst
      have HCC := Lib.hid hC
      have HCC2 := Lib.hid hCc
      have HF := Lib.hid hF
      have HR := Lib.hid hR
      have HL := Lib.hid (left_any hC)
      clear hgk hrow hlst hC hCc hF hR HC2 HF2 HN
      by_cases hql : q < y.length
      · obtain ⟨lq, hlq⟩ : ∃ lq, lq = y.length - q := ⟨_, rfl⟩
        rw [← hlq] at HL HG
        have q1 : (0 : Int) < (lq : Int) := by omega
        have HLQ := Lib.hid hlq
        clear hlq
        by_cases h16 : l.length = 16
        · have q3 : ((l.length : Int) == 16) = true := by rw [h16]; rfl
          have q4 : (l.length == 16) = true := by rw [h16]; rfl
          have hp := HR.out
          rw [rdnSt_full (drop_ne hql) h16] at hp
          have HP2 := Lib.hid (rdnRead_e2 HP.out hp)
          clear hp HR HP h16
          go_wp2_with fail
          refine HL.out.mono ?_
          rintro e w4 ⟨rfl, F4⟩
          have HF4 := Lib.hid (HF.out.trans (F4.mono (fun _ _ h => h.elim)))
          have HC4 := Lib.hid (HCC2.out.old F4)
          clear F4 HL HCC
          go_wp2_with fail
          refine bodyPost_ret (v := .tuple #[.slice none 0 0, .int .i64 2]) (by simp [results, Tryz.results150, go_sem]) rfl ⟨?_, HF4.out⟩
          rw [HP2.out]
          exact ⟨rfl, by decide, _, Nat.le_add_right p m, HC4.out.step (K' := K) (Fr.refl w4) (S := fun _ => False) (fun _ _ h => h.elim) (fun k hk => .inl (.inl hk))⟩
        · have q3 : ((l.length : Int) == 16) = false := beq_eq_false_iff_ne.2 (by omega)
          have q4 : (l.length == 16) = false := beq_eq_false_iff_ne.2 (by omega)
          go_wp2_with fail
          refine HL.out.mono ?_
          rintro e w4 ⟨rfl, F4⟩
          have HF4 := Lib.hid (HF.out.trans (F4.mono (fun _ _ h => h.elim)))
          have HC4 := Lib.hid (HCC2.out.old F4)
          have HCG4 := Lib.hid (HCC.out.old F4)
          have HRW4 := Lib.hid (HRW.out.old F4)
          have HLS4 := Lib.hid (HLS.out.old F4)
          have hs4 := F4.size
          have HK4 := Lib.hid HRW4.out.keep
          have HAT := Lib.hid (attr_any HCG4.out)
          clear F4 HL HCC HCC2 HF HRW HLS
          go_wp2_with fail
          refine HAT.out.mono ?_
          rintro e w5 ⟨hout, F5⟩
          have HF5 := Lib.hid (HF4.out.trans' F5 (fun i hi e => by omega))
          have HC5 := Lib.hid (HC4.out.step (K' := fun k => K k ∨ w.heap.size ≤ k) F5 (fun k _ e => .inr (by omega)) (fun _ h => .inl h))
          have HRW5 := Lib.hid (HRW4.out.fr F5 (fun k _ e => by omega) (fun k hk e => by have := (HRW4.out.keep k hk).1; omega))
          have HLS5 := Lib.hid (HLS4.out.step (K' := fun k => k < w2.heap.size) F5 (fun k _ e => by omega) (fun _ h => .inl h))
          have hs5 := F5.size
          clear F5 HAT HF4 HC4 HCG4 HRW4 HLS4
          unfold attrOut at hout
          cases hp : partReadS (y.drop q) with
          | error x =>
            rw [hp] at hout
            obtain ⟨rfl, hx, -⟩ := hout
            have hx1 : (x == 0) = false := beq_eq_false_iff_ne.2 hx
            have hx2 : (x != 0) = true := by simpa using hx
            have hr := HR.out
            rw [rdnSt_err (drop_ne hql) h16 hp] at hr
            have HP2 := Lib.hid (rdnRead_e2 HP.out hr)
            have HX := Lib.hid hx
            clear hr HR HP h16 hp hx
            go_wp2_with fail
            refine bodyPost_ret (v := .tuple #[.slice none 0 0, .int .i64 x]) (by simp [results, Tryz.results150, go_sem]) rfl ⟨?_, HF5.out.alloc _⟩
            rw [HP2.out]
            exact ⟨rfl, HX.out, _, Nat.le_add_right p m, HC5.out.step (K' := K) ((Fr.refl w5).alloc _) (S := fun _ => False) (fun _ _ h => h.elim) (fun k hk => .inl (.inl hk))⟩
          | ok pm =>
            obtain ⟨pt1, m1⟩ := pm
            rw [hp] at hout
            obtain ⟨ao, co, av, cv, rfl, hkp, C5⟩ := hout
            obtain ⟨hb1, hb2, hb3, hb4⟩ := partRead_back hp
            rw [List.length_drop] at hb2 hb4
            have hr := HR.out
            rw [rdnSt_ok h16 hp] at hr
            obtain ⟨one, hone⟩ : ∃ one, one = (y.drop q).take m1 := ⟨_, rfl⟩
            have honel : one.length ≤ 1099511627776 := by rw [hone, List.length_take, List.length_drop]; omega
            rw [← hone] at hb1 hr
            rw [List.drop_drop] at hr
            have F6 : Fr (fun _ => False) w5 (w5.alloc (.cells #[.slice ao pt1.o.length co, .slice av pt1.b.length cv] 108)) := (Fr.refl w5).alloc _
            have B6 := Blk.new w5 108 #[.slice ao pt1.o.length co, .slice av pt1.b.length cv]
            obtain ⟨z, hz⟩ : ∃ z, z = w5.heap.size := ⟨_, rfl⟩
            have HKP := Lib.hid (hkp.old F6)
            have HCG6 := Lib.hid (C5.old F6)
            have HF6 := Lib.hid (HF5.out.alloc (.cells #[.slice ao pt1.o.length co, .slice av pt1.b.length cv] 108))
            have HC6 := Lib.hid (HC5.out.old F6)
            have HRW6 := Lib.hid (HRW5.out.old F6)
            have HLS6 := Lib.hid (HLS5.out.old F6)
            have hs6 := F6.size
            have HRR := Lib.hid hr
            have HB1 := Lib.hid hb1
            rw [← hz] at B6
            have HZ := Lib.hid hz
            have hm1 : y.length - (q + m1) < lq := by have := HLQ.out; omega
            have HM := Lib.hid hm1
            have hqm : q + m1 ≤ y.length := by omega
            have hl15 : l.length + 1 ≤ 16 := by omega
            have hzs : w2.heap.size ≤ z := by omega
            clear hr HR hp hkp C5 hb1 hone F6 hz HF5 HC5 HRW5 HLS5 hm1 h16
            go_upto_region 12 with fail
            rw [← HZ.out]
            generalize (w5.alloc (.cells #[.slice ao pt1.o.length co, .slice av pt1.b.length cv] 108)) = w6 at *
            have HWH := Lib.hid (whole_any _ _ pt1.o pt1.b w6 HKP.out.now.1 HKP.out.now.2 (by omega))
            have SZ := B6.cell
            go_wp2_with fail
            refine HWH.out.mono ?_
            rintro e w7 ⟨v, rfl, hwo, F7⟩
            replace hwo : w7.ownsRow w6.heap.size 5 1 v one.length (Lib.byteCells one) := by
              unfold wholeOut at hwo
              rw [HB1.out] at hwo
              exact hwo
            have HVB := Lib.hid (Vals.of_own hwo).1
            have HOV7 := Lib.hid hwo
            obtain ⟨a1, n1, c1, rfl, rfl⟩ := own_shape hwo
            have HF7 := Lib.hid (HF6.out.trans (F7.mono (fun _ _ h => h.elim)))
            have HC7 := Lib.hid (HC6.out.old F7)
            have HCG7 := Lib.hid (HCG6.out.old F7)
            have HRW7 := Lib.hid (HRW6.out.old F7)
            have HLS7 := Lib.hid (HLS6.out.old F7)
            have HKP7 := Lib.hid (HKP.out.old F7)
            have B7 := B6.fr F7 (fun h => h)
            replace SZ := B7.cell
            have hs7 := F7.size
            have hways : l.length = 0 ∨ (l.length ≠ 0 ∧ cmpS lst one = 0) ∨ (l.length ≠ 0 ∧ cmpS lst one = 1) ∨ (l.length ≠ 0 ∧ cmpS lst one = -1) := by
              have := cmpS_three lst one
              omega
            clear hwo F7 HF6 HC6 HCG6 HRW6 HLS6 HKP HWH HB1 B6
            have hrr := HRR.out
            rcases hways with h0 | ⟨h0, hc⟩ | ⟨h0, hc⟩ | ⟨h0, hc⟩
            case inr.inl =>
              rw [if_pos ⟨h0, hc⟩] at hrr
              have HP2 := Lib.hid (rdnRead_e2 HP.out hrr)
              clear hrr HRR
              have HCM := Lib.hid (compare_any _ _ lst one w7 HLS7.out.now HVB.out hlsl honel)
              rw [hc] at HCM
              have q5 : (0 : Int) < (l.length : Int) := by omega
              have q6 : 0 < l.length := by omega
              clear hc
              go_wp2_with fail
              refine HCM.out.mono ?_
              rintro e w8 ⟨rfl, F8⟩
              have HF8 := Lib.hid (HF7.out.trans (F8.mono (T := fun k => k = c) (fun _ _ h => h.elim)))
              have HC8 := Lib.hid (HC7.out.old F8)
              have HCG8 := Lib.hid (HCG7.out.old F8)
              have HRW8 := Lib.hid (HRW7.out.old F8)
              have HKP8 := Lib.hid (HKP7.out.old F8)
              have HOV8 := Lib.hid (ownsRow_fr HOV7.out F8 (fun _ _ h => h))
              replace SZ := (B7.fr F8 (fun h => h)).cell
              have hs8 := F8.size
              clear F8
              go_wp2_with fail
              refine bodyPost_ret (v := .tuple #[.slice none 0 0, .int .i64 10]) (by simp [results, Tryz.results150, go_sem]) rfl ⟨?_, HF8.out⟩
              rw [HP2.out]
              exact ⟨rfl, by decide, _, Nat.le_add_right p m, HC8.out.step (K' := K) (Fr.refl w8) (S := fun _ => False) (fun _ _ h => h.elim) (fun k hk => .inl (.inl hk))⟩
            case inr.inr.inl =>
              rw [if_neg (by rw [hc]; simp), if_pos ⟨h0, by rw [hc]; decide⟩] at hrr
              have HP2 := Lib.hid (rdnRead_e2 HP.out hrr)
              clear hrr HRR
              have HCM := Lib.hid (compare_any _ _ lst one w7 HLS7.out.now HVB.out hlsl honel)
              rw [hc] at HCM
              have q5 : (0 : Int) < (l.length : Int) := by omega
              have q6 : 0 < l.length := by omega
              clear hc
              go_wp2_with fail
              refine HCM.out.mono ?_
              rintro e w8 ⟨rfl, F8⟩
              have HF8 := Lib.hid (HF7.out.trans (F8.mono (T := fun k => k = c) (fun _ _ h => h.elim)))
              have HC8 := Lib.hid (HC7.out.old F8)
              have HCG8 := Lib.hid (HCG7.out.old F8)
              have HRW8 := Lib.hid (HRW7.out.old F8)
              have HKP8 := Lib.hid (HKP7.out.old F8)
              have HOV8 := Lib.hid (ownsRow_fr HOV7.out F8 (fun _ _ h => h))
              replace SZ := (B7.fr F8 (fun h => h)).cell
              have hs8 := F8.size
              clear F8
              go_wp2_with fail
              refine bodyPost_ret (v := .tuple #[.slice none 0 0, .int .i64 9]) (by simp [results, Tryz.results150, go_sem]) rfl ⟨?_, HF8.out⟩
              rw [HP2.out]
              exact ⟨rfl, by decide, _, Nat.le_add_right p m, HC8.out.step (K' := K) (Fr.refl w8) (S := fun _ => False) (fun _ _ h => h.elim) (fun k hk => .inl (.inl hk))⟩
            case' inl =>
              rw [if_neg (fun h => h.1 h0), if_neg (fun h => h.1 h0)] at hrr
              have HRN := Lib.hid hrr
              have q5 : ¬ (0 : Int) < (l.length : Int) := by omega
              have q6 : ¬ 0 < l.length := by omega
              clear hrr HRR
              obtain ⟨w8, hw8⟩ : ∃ w8 : World, w8 = w7 := ⟨_, rfl⟩
              have F8 : Fr (fun _ => False) w7 w8 := by rw [hw8]; exact Fr.refl _
              have HF8 := Lib.hid (HF7.out.trans (F8.mono (T := fun k => k = c) (fun _ _ h => h.elim)))
              have HC8 := Lib.hid (HC7.out.old F8)
              have HCG8 := Lib.hid (HCG7.out.old F8)
              have HRW8 := Lib.hid (HRW7.out.old F8)
              have HKP8 := Lib.hid (HKP7.out.old F8)
              have HOV8 := Lib.hid (ownsRow_fr HOV7.out F8 (fun _ _ h => h))
              replace SZ := (B7.fr F8 (fun h => h)).cell
              have hs8 := F8.size
              rw [← hw8]
              clear F8 hw8 h0
              go_upto_region 19 with fail
            case' inr.inr.inr =>
              rw [if_neg (by rw [hc]; simp), if_neg (by rw [hc]; simp)] at hrr
              have HRN := Lib.hid hrr
              clear hrr HRR
              have HCM := Lib.hid (compare_any _ _ lst one w7 HLS7.out.now HVB.out hlsl honel)
              rw [hc] at HCM
              have q5 : (0 : Int) < (l.length : Int) := by omega
              have q6 : 0 < l.length := by omega
              clear hc
              go_wp2_with fail
              refine HCM.out.mono ?_
              rintro e w8 ⟨rfl, F8⟩
              have HF8 := Lib.hid (HF7.out.trans (F8.mono (T := fun k => k = c) (fun _ _ h => h.elim)))
              have HC8 := Lib.hid (HC7.out.old F8)
              have HCG8 := Lib.hid (HCG7.out.old F8)
              have HRW8 := Lib.hid (HRW7.out.old F8)
              have HKP8 := Lib.hid (HKP7.out.old F8)
              have HOV8 := Lib.hid (ownsRow_fr HOV7.out F8 (fun _ _ h => h))
              replace SZ := (B7.fr F8 (fun h => h)).cell
              have hs8 := F8.size
              clear F8 HCM
              go_upto_region 19 with fail
            all_goals
              clear HF7 HC7 HCG7 HRW7 HLS7 HKP7 HOV7 B7 HVB
              have hk4 := HK4.out
              have hb9 : w2.heap.size ≤ w8.heap.size := by omega
              obtain ⟨a7, c7, w9, hrun, hrow9, F9, hown9⟩ := GRow.add (s := 90) Tryz.underlying90 info108 rfl (by decide) (by decide) HRW8.out hb9 ((Fr.refl w8).alloc (.cells #[.slice ao pt1.o.length co, .slice av pt1.b.length cv] 108)) w8.heap.size [.slice ao pt1.o.length co, .slice av pt1.b.length cv] rfl (Blk.new w8 _ _) (by intro u hu; simp at hu; rcases hu with rfl | rfl <;> rfl) pt1 (fun W f => ⟨_, _, rfl, HKP8.out W (f.mono (fun k _ hk => by
                rcases hk with hk | hk
                · exact (hk4 k hk).2
                · omega))⟩) (by omega)
              have HCG9 := Lib.hid (HCG8.out.step (K' := fun k => k < w1.heap.size ∨ w2.heap.size ≤ k) F9 (fun k _ e => .inr (hk4 k e).1) (fun _ h => .inl h))
              have HC9 := Lib.hid (HC8.out.step (K' := fun k => K k ∨ w.heap.size ≤ k) F9 (fun k _ e => .inr (by have := (hk4 k e).1; omega)) (fun _ h => .inl h))
              have HF9 := Lib.hid (HF8.out.trans' F9 (fun i hi e => by have := (hk4 i e).1; omega))
              have HLS9 := Lib.hid (own_kept' (ownsRow_fr HOV8.out F9 (fun k hk e => by have := (hk4 k e).2; have := ((Vals.of_own HOV8.out).2 k hk).1; omega)) (fun k => k < w2.heap.size) (fun k hk => by omega))
              have hs9 := F9.size
              have HRUN := Lib.hid hrun
              have HRW9 := Lib.hid hrow9
              clear hrun hrow9 F9 hown9 HRW8 HCG8 HC8 HF8 HKP8 HOV8 hk4
              go_wp2_with (at_builtin; refine wpList_append_run (by rfl) (.tmp 48) (.tmp 50) 90 (by rfl) _ w9 (by exact HRUN.out) ?_)
              go_roundg (y.length - (q + m1))
              case measure => rw [HG.out]; exact HM.out
              case rel => exact ⟨l ++ [pt1], one, q + m1, a7, c7, rfl, hqm, by rw [List.length_append]; exact hl15, by rw [List.length_append]; rfl, by rw [List.length_append]; exact HRW9.out, HLS9.out, honel, HCG9.out, HC9.out, HF9.out, by omega, HRN.out⟩
      · obtain rfl : q = y.length := by omega
        have hr := HR.out
        rw [List.drop_length, rdnSt_end] at hr
        rw [Nat.sub_self] at HL
        have HR2 := Lib.hid hr
        clear hr HR
        by_cases h0 : l.length = 0
        · have q5 : ((l.length : Int) == 0) = true := by rw [h0]; rfl
          have q6 : (l.length == 0) = true := by rw [h0]; rfl
          have hp := HR2.out
          rw [if_pos h0] at hp
          have HP2 := Lib.hid (rdnRead_e2 HP.out hp)
          clear hp HR2 HP h0
          go_wp2_with fail
          refine HL.out.mono ?_
          rintro e w4 ⟨rfl, F4⟩
          have HF4 := Lib.hid (HF.out.trans (F4.mono (fun _ _ h => h.elim)))
          have HC4 := Lib.hid (HCC2.out.old F4)
          clear F4 HL HCC
          go_wp2_with fail
          refine bodyPost_ret (v := .tuple #[.slice none 0 0, .int .i64 6]) (by simp [results, Tryz.results150, go_sem]) rfl ⟨?_, HF4.out⟩
          rw [HP2.out]
          exact ⟨rfl, by decide, _, Nat.le_add_right p m, HC4.out.step (K' := K) (Fr.refl w4) (S := fun _ => False) (fun _ _ h => h.elim) (fun k hk => .inl (.inl hk))⟩
        · have q5 : ((l.length : Int) == 0) = false := beq_eq_false_iff_ne.2 (by omega)
          have q6 : (l.length == 0) = false := beq_eq_false_iff_ne.2 h0
          have hp := HR2.out
          rw [if_neg h0] at hp
          have HP2 := Lib.hid (rdnRead_ok HP.out hp)
          clear hp HR2 HP h0
          go_wp2_with fail
          refine HL.out.mono ?_
          rintro e w4 ⟨rfl, F4⟩
          have HF4 := Lib.hid (HF.out.trans (F4.mono (fun _ _ h => h.elim)))
          have HC4 := Lib.hid (HCC2.out.old F4)
          have HK4 := Lib.hid ((HRW.out.old F4).kept (by decide) (fun k => k < w.heap.size) (fun k hk => by omega))
          clear F4 HL HCC
          go_wp2_with fail
          refine bodyPost_ret (v := .tuple #[.slice a l.length cc, .int .i64 0]) (by simp [results, Tryz.results150, go_sem]) rfl ⟨?_, HF4.out⟩
          rw [HP2.out]
          exact ⟨a, cc, rfl, HK4.out.imp (fun W h => h.attrs), HC4.out.step (K' := K) (Fr.refl w4) (S := fun _ => False) (fun _ _ h => h.elim) (fun k hk => .inl (.inl hk))⟩
end Go.Proofs.YtacekpdjapgfcaaGreatDoor

namespace Go.Q
open Go Go.RowKit
theorem nameRead_e1 {l : List UInt8} {x : Int} (h : openS (tagOf 16) l = .error x) : nameReadS l = .error x := by unfold nameReadS; rw [h]
theorem nameRead_e2 {l y : List UInt8} {k : Nat} {x : Int} (h : openS (tagOf 16) l = .ok (y, k)) (h2 : nameSt [] y = .error x) : nameReadS l = .error x := by unfold nameReadS; rw [h]; simp only [h2]
theorem nameRead_ok {l y : List UInt8} {k : Nat} {r : List (List Part)} (h : openS (tagOf 16) l = .ok (y, k)) (h2 : nameSt [] y = .ok r) : nameReadS l = .ok (r, k) := by unfold nameReadS; rw [h]; simp only [h2]
end Go.Q
namespace Go.Proofs.YtacekpdjapgfcaaGreatDoor
open Go Go.RowKit Go.Q
set_option linter.unusedSimpArgs false
def nameOut (w w' : World) (c : Nat) (K : Nat → Prop) (bs : List UInt8) (p : Nat) (r : Except Int (List (List Part) × Nat)) (e : Ending) : Prop :=
  match r with
  | .ok (l, m) => ∃ a cc, e = .returned (.tuple #[.slice a l.length cc, .int .i64 0]) ∧ Kept (fun W => NameAt W (.slice a l.length cc) l) (fun k => k < w.heap.size) w' ∧ CurAt w' c K bs (p + m)
  | .error x => e = .returned (.tuple #[.slice none 0 0, .int .i64 x]) ∧ x ≠ 0 ∧ ∃ q, p ≤ q ∧ CurAt w' c K bs q
set_option maxRecDepth 20000 in
set_option maxHeartbeats 4000000 in
theorem nameR_any {w : World} {c : Nat} {K : Nat → Prop} {bs : List UInt8} {p : Nat} (h : CurAt w c K bs p) (hbs : bs.length ≤ 10000000) :
    Calls Tryz.prog 109 #[.agg #[pt c]] w fun e w' => nameOut w w' c K bs p (nameReadS (bs.drop p)) e ∧ Fr (fun k => k = c) w w' := by
  have hcl := h.lt
  obtain ⟨b0, hb0⟩ : ∃ b0, b0 = w.heap.size := ⟨_, rfl⟩
  have F0 : Fr (fun _ => False) w (w.alloc (.cells #[pt c] 165)) := (Fr.refl w).alloc _
  have B0 := Blk.new w 165 #[pt c]
  have H := Lib.hid (h.step (K' := fun k => K k ∨ w.heap.size ≤ k) F0 (fun _ _ h => h.elim) (fun _ h => h))
  rw [← hb0] at B0
  have hbc : b0 ≠ c := by omega
  have HB0 := Lib.hid hb0
  clear h hb0
  go_enter Tryz.func109, Tryz.ntmps109
  go_upto_region 1 with fail
  rw [← HB0.out]
  generalize (w.alloc (.cells #[pt c] 165)) = w0 at *
  have hs0 := F0.size
  have HF0 := Lib.hid (F0.mono (T := fun k => k = c) (fun _ _ h => h.elim)).drew
  have HH := Lib.hid (H.out.old (Fr.refl w0).drew)
  have e0 : w0.drew.cell? ⟨b0, 0, none⟩ = some (pt c) := B0.cell 0
  have hd0 : w0.drew.heap.size = w0.heap.size := rfl
  clear F0 B0 H
  cases ho : openS (tagOf 16) (bs.drop p) with
  | error x =>
    have hx := openS_nz ho
    have hx1 : (x == 0) = false := beq_eq_false_iff_ne.2 hx
    have hx2 : (x != 0) = true := by simpa using hx
    have HP := Lib.hid (nameRead_e1 ho)
    have HX := Lib.hid hx
    have HE := Lib.hid (fun w1 (C : CurAt w1 c (fun k => K k ∨ w.heap.size ≤ k) bs p) => open_err C (tagOf 16) ho)
    clear ho hx
    go_region_held3 (fun w' => w'.cell? ⟨b0, 0, none⟩ = some (pt c)) (exact e0) (first
      | (go_at_call 56; refine (headOf_any 16 _).mono ?_; rintro e w1 ⟨rfl, F1⟩; replace e0 := F1.cell e0 (fun h => h); have HO := Lib.hid (HE.out w1 (HH.out.old F1)))
      | (go_at_call 79; refine HO.out.mono ?_; rintro e w2 ⟨rfl, C2, F2⟩; replace e0 := F2.cell e0 hbc))
    have HF2 := Lib.hid ((HF0.out.trans (F1.mono (fun _ _ h => h.elim))).trans F2)
    have HC2 := Lib.hid C2
    clear C2 F2 F1 HO HE HH
    go_wp2_with fail
    refine bodyPost_ret (v := .tuple #[.slice none 0 0, .int .i64 x]) (by simp [results, Tryz.results109, go_sem]) rfl ⟨?_, HF2.out⟩
    rw [HP.out]
    exact ⟨rfl, HX.out, p, Nat.le_refl _, HC2.out.step (K' := K) (Fr.refl w2) (S := fun _ => False) (fun _ _ h => h.elim) (fun k hk => .inl (.inl hk))⟩
  | ok ym =>
    obtain ⟨y, m⟩ := ym
    obtain ⟨-, -, hob3, hob4⟩ := open_back ho tag16
    rw [List.length_drop] at hob3
    have hyl : y.length ≤ 10000000 := by omega
    have HP := Lib.hid ho
    have HE := Lib.hid (fun w1 (C : CurAt w1 c (fun k => K k ∨ w.heap.size ≤ k) bs p) => open_on C (tagOf 16) ho)
    clear ho hob3 hob4 hbs
    go_region_held3 (fun w' => w'.cell? ⟨b0, 0, none⟩ = some (pt c)) (exact e0) (first
      | (go_at_call 56; refine (headOf_any 16 _).mono ?_; rintro e w1 ⟨rfl, F1⟩; replace e0 := F1.cell e0 (fun h => h); have HO := Lib.hid (HE.out w1 (HH.out.old F1)))
      | (go_at_call 79; refine HO.out.mono ?_; rintro e w2 ⟨⟨g, rfl, ⟨hg, hN⟩, C2⟩, F2⟩; replace e0 := F2.cell e0 hbc))
    have hs1 := F1.size
    have hs2 := F2.size
    rw [hd0] at hs1
    have F3 : Fr (fun _ => False) w2 (w2.alloc (.cells #[] 90)) := (Fr.refl w2).alloc _
    have HF2 := Lib.hid (((HF0.out.trans (F1.mono (fun _ _ h => h.elim))).trans F2).trans (F3.mono (fun _ _ h => h.elim)))
    have HC2 := Lib.hid (C2.old F3)
    have HN := Lib.hid ((hN.step (K' := fun k => k < w1.heap.size ∨ w2.heap.size ≤ k) (Fr.refl w2) (S := fun _ => False) (fun _ _ h => h.elim) (fun _ h => h)).old F3)
    have hgl := hN.lt
    have N0 : GRow 1 RStep (fun k => k < w2.heap.size) 90 (w2.alloc (.cells #[] 90)) w2.heap.size (.slice (some ⟨w2.heap.size, 0, none⟩) 0 0) [] := ⟨[], own_block (Blk.new w2 90 #[]) 0 (Nat.le_refl _) (Nat.zero_le _) w2.heap.size (Nat.le_refl _), fun i u h => by simp at h⟩
    have HN0 := Lib.hid N0
    have hs3 := F3.size
    clear C2 F2 F1 HO HE HH hN e0 hd0 F3 N0
    go_wp2_with fail
    go_loopg [6] y.length (fun gk u wr => ∃ (l : List (List Part)) (q : Nat) (a : Option Addr) (cc : Nat), gk = y.length - q ∧ q ≤ y.length ∧ l.length ≤ 64 ∧ u = .slice a l.length cc ∧ GRow 1 RStep (fun k => k < w2.heap.size) 90 wr w2.heap.size (.slice a l.length cc) l ∧ CurAt wr g (fun k => k < w1.heap.size ∨ w2.heap.size ≤ k) y q ∧ CurAt wr c (fun k => K k ∨ w.heap.size ≤ k) bs (p + m) ∧ Fr (fun k => k = c) w wr ∧ w2.heap.size ≤ wr.heap.size ∧ nameSt [] y = nameSt l (y.drop q))
    case atStart => exact ⟨[], 0, _, 0, rfl, Nat.zero_le _, by simp, rfl, HN0.out, HN.out, HC2.out, HF2.out, hs3, rfl⟩
    case round =>
      obtain ⟨l, q, a, cc, hgk, hq, hl64, rfl, hrow, hC, hCc, hF, hsz, hR⟩ := hrel
      have HG := Lib.hid hgk
      have HRW := Lib.hid hrow
      have HCC := Lib.hid hC
      have HCC2 := Lib.hid hCc
      have HF := Lib.hid hF
      have HR := Lib.hid hR
      have HL := Lib.hid (left_any hC)
      clear hgk hrow hC hCc hF hR HC2 HF2 HN HN0
      by_cases hql : q < y.length
      · obtain ⟨lq, hlq⟩ : ∃ lq, lq = y.length - q := ⟨_, rfl⟩
        rw [← hlq] at HL HG
        have q1 : (0 : Int) < (lq : Int) := by omega
        have HLQ := Lib.hid hlq
        clear hlq
        by_cases h64 : l.length = 64
        · have q3 : ((l.length : Int) == 64) = true := by rw [h64]; rfl
          have q4 : (l.length == 64) = true := by rw [h64]; rfl
          have hp := HR.out
          rw [nameSt_full (drop_ne hql) h64] at hp
          have HP2 := Lib.hid (nameRead_e2 HP.out hp)
          clear hp HR HP h64
          go_wp2_with fail
          refine HL.out.mono ?_
          rintro e w4 ⟨rfl, F4⟩
          have HF4 := Lib.hid (HF.out.trans (F4.mono (fun _ _ h => h.elim)))
          have HC4 := Lib.hid (HCC2.out.old F4)
          clear F4 HL HCC
          go_wp2_with fail
          refine bodyPost_ret (v := .tuple #[.slice none 0 0, .int .i64 2]) (by simp [results, Tryz.results109, go_sem]) rfl ⟨?_, HF4.out⟩
          rw [HP2.out]
          exact ⟨rfl, by decide, _, Nat.le_add_right p m, HC4.out.step (K' := K) (Fr.refl w4) (S := fun _ => False) (fun _ _ h => h.elim) (fun k hk => .inl (.inl hk))⟩
        · have q3 : ((l.length : Int) == 64) = false := beq_eq_false_iff_ne.2 (by omega)
          have q4 : (l.length == 64) = false := beq_eq_false_iff_ne.2 (by omega)
          go_wp2_with fail
          refine HL.out.mono ?_
          rintro e w4 ⟨rfl, F4⟩
          have HF4 := Lib.hid (HF.out.trans (F4.mono (fun _ _ h => h.elim)))
          have HC4 := Lib.hid (HCC2.out.old F4)
          have HCG4 := Lib.hid (HCC.out.old F4)
          have HRW4 := Lib.hid (HRW.out.old F4)
          have hs4 := F4.size
          have HK4 := Lib.hid HRW4.out.keep
          have HAT := Lib.hid (rdn_any HCG4.out hyl)
          clear F4 HL HCC HCC2 HF HRW
          go_wp2_with fail
          refine HAT.out.mono ?_
          rintro e w5 ⟨hout, F5⟩
          have HF5 := Lib.hid (HF4.out.trans' F5 (fun i hi e => by omega))
          have HC5 := Lib.hid (HC4.out.step (K' := fun k => K k ∨ w.heap.size ≤ k) F5 (fun k _ e => .inr (by omega)) (fun _ h => .inl h))
          have HRW5 := Lib.hid (HRW4.out.fr F5 (fun k _ e => by omega) (fun k hk e => by have := (HRW4.out.keep k hk).1; omega))
          have hs5 := F5.size
          clear F5 HAT HF4 HC4 HCG4 HRW4
          unfold rdnOut at hout
          cases hp : rdnReadS (y.drop q) with
          | error x =>
            rw [hp] at hout
            obtain ⟨rfl, hx, -⟩ := hout
            have hx1 : (x == 0) = false := beq_eq_false_iff_ne.2 hx
            have hx2 : (x != 0) = true := by simpa using hx
            have hr := HR.out
            rw [nameSt_err (drop_ne hql) h64 hp] at hr
            have HP2 := Lib.hid (nameRead_e2 HP.out hr)
            have HX := Lib.hid hx
            clear hr HR HP h64 hp hx
            go_wp2_with fail
            refine bodyPost_ret (v := .tuple #[.slice none 0 0, .int .i64 x]) (by simp [results, Tryz.results109, go_sem]) rfl ⟨?_, HF5.out⟩
            rw [HP2.out]
            exact ⟨rfl, HX.out, _, Nat.le_add_right p m, HC5.out.step (K' := K) (Fr.refl w5) (S := fun _ => False) (fun _ _ h => h.elim) (fun k hk => .inl (.inl hk))⟩
          | ok rm =>
            obtain ⟨r, m1⟩ := rm
            rw [hp] at hout
            obtain ⟨ar, cr, rfl, hkp, C5⟩ := hout
            obtain ⟨hb2, hb3⟩ := rdnRead_len hp
            rw [List.length_drop] at hb2
            have hr := HR.out
            rw [nameSt_ok h64 hp, List.drop_drop] at hr
            have HRN := Lib.hid hr
            have HM := Lib.hid (show y.length - (q + m1) < lq from by have := HLQ.out; omega)
            have hqm : q + m1 ≤ y.length := by omega
            have hl63 : l.length + 1 ≤ 64 := by omega
            have hk4 := HK4.out
            obtain ⟨a7, c7, w9, hrun, hrow9, F9, hown9⟩ := GRow.add (s := 25) Tryz.underlying25 info90 rfl (by decide) (by decide) HRW5.out (by omega) ((Fr.refl w5).alloc (.cells #[.slice ar r.length cr] 90)) w5.heap.size [.slice ar r.length cr] rfl (Blk.new w5 _ _) (by intro u hu; simp at hu; subst hu; rfl) r (fun W f => ⟨_, rfl, hkp W (f.mono (fun k _ hk => by
              rcases hk with hk | hk
              · exact (hk4 k hk).2
              · omega))⟩) (by omega)
            have HCG9 := Lib.hid (C5.step (K' := fun k => k < w1.heap.size ∨ w2.heap.size ≤ k) F9 (fun k _ e => .inr (hk4 k e).1) (fun _ h => .inl h))
            have HC9 := Lib.hid (HC5.out.step (K' := fun k => K k ∨ w.heap.size ≤ k) F9 (fun k _ e => .inr (by have := (hk4 k e).1; omega)) (fun _ h => .inl h))
            have HF9 := Lib.hid (HF5.out.trans' F9 (fun i hi e => by have := (hk4 i e).1; omega))
            have hs9 := F9.size
            have HRUN := Lib.hid hrun
            have HRW9 := Lib.hid hrow9
            clear hr HR hp hkp C5 h64 hrun hrow9 F9 hown9 HRW5 HC5 HF5 hk4 hb2 hb3
            go_wp2_with (at_builtin; refine wpList_append_run (by rfl) (.tmp 35) (.tmp 37) 25 (by rfl) _ w9 (by exact HRUN.out) ?_)
            go_roundg (y.length - (q + m1))
            case measure => rw [HG.out]; exact HM.out
            case rel => exact ⟨l ++ [r], q + m1, a7, c7, rfl, hqm, by rw [List.length_append]; exact hl63, by rw [List.length_append]; rfl, by rw [List.length_append]; exact HRW9.out, HCG9.out, HC9.out, HF9.out, by omega, HRN.out⟩
      · obtain rfl : q = y.length := by omega
        have hr := HR.out
        rw [List.drop_length] at hr
        rw [Nat.sub_self] at HL
        have HP2 := Lib.hid (nameRead_ok HP.out (hr.trans rfl))
        clear hr HR HP
        go_wp2_with fail
        refine HL.out.mono ?_
        rintro e w4 ⟨rfl, F4⟩
        have HF4 := Lib.hid (HF.out.trans (F4.mono (fun _ _ h => h.elim)))
        have HC4 := Lib.hid (HCC2.out.old F4)
        have HK4 := Lib.hid ((HRW.out.old F4).kept (by decide) (fun k => k < w.heap.size) (fun k hk => by omega))
        clear F4 HL HCC
        go_wp2_with fail
        refine bodyPost_ret (v := .tuple #[.slice a l.length cc, .int .i64 0]) (by simp [results, Tryz.results109, go_sem]) rfl ⟨?_, HF4.out⟩
        rw [HP2.out]
        exact ⟨a, cc, rfl, HK4.out.imp (fun W h => h.name), HC4.out.step (K' := K) (Fr.refl w4) (S := fun _ => False) (fun _ _ h => h.elim) (fun k hk => .inl (.inl hk))⟩
def nameReadOut (w w' : World) (c : Nat) (K : Nat → Prop) (bs : List UInt8) (p : Nat) (r : Except Int (List (List Part) × Nat)) (e : Ending) : Prop :=
  match r with
  | .ok (l, m) => ∃ a cc, e = .returned (.tuple #[.slice a l.length cc, .int .i64 0]) ∧ Kept (fun W => NameAt W (.slice a l.length cc) l) (fun k => k < w.heap.size) w' ∧ CurAt w' c K bs (p + m)
  | .error x => e = .returned (.tuple #[.slice none 0 0, .int .i64 x]) ∧ x ≠ 0 ∧ CurAt w' c K bs p
set_option maxRecDepth 20000 in
set_option maxHeartbeats 1000000 in
theorem nameRead_any {w : World} {c : Nat} {K : Nat → Prop} {bs : List UInt8} {p : Nat} (h : CurAt w c K bs p) (hbs : bs.length ≤ 10000000) :
    Calls Tryz.prog 62 #[pt c] w fun e w' => nameReadOut w w' c K bs p (nameReadS (bs.drop p)) e ∧ Fr (fun k => k = c) w w' := by
  have HA := Lib.hid (at_any h)
  have HN := Lib.hid (nameR_any h hbs)
  clear h
  go_enter Tryz.func62, Tryz.ntmps62
  go_wp2_with fail
  refine HA.out.mono ?_
  rintro e w0 ⟨rfl, rfl⟩
  go_wp2_with fail
  refine HN.out.mono ?_
  rintro e w1 ⟨hout, F1⟩
  have HF1 := Lib.hid F1
  clear HA HN F1
  unfold nameOut at hout
  cases hr : nameReadS (bs.drop p) with
  | error x =>
    rw [hr] at hout
    obtain ⟨rfl, hx, q, hq, C1⟩ := hout
    have hx1 : (x == 0) = false := beq_eq_false_iff_ne.2 hx
    have hx2 : (x != 0) = true := by simpa using hx
    have HB := Lib.hid (back_any C1 p hq)
    have HR := Lib.hid hr
    have HX := Lib.hid hx
    clear hr hx C1
    go_wp2_with fail
    refine HB.out.mono ?_
    rintro e w2 ⟨rfl, C2, F2⟩
    have HC2 := Lib.hid C2
    have HF2 := Lib.hid (HF1.out.trans F2)
    clear C2 F2 HB
    go_wp2_with fail
    refine bodyPost_ret (v := .tuple #[.slice none 0 0, .int .i64 x]) (by simp [results, Tryz.results62, go_sem]) rfl ⟨?_, HF2.out⟩
    rw [HR.out]
    exact ⟨rfl, HX.out, HC2.out⟩
  | ok lm =>
    obtain ⟨l, m⟩ := lm
    rw [hr] at hout
    obtain ⟨a, cc, rfl, hk, C1⟩ := hout
    have HK := Lib.hid hk
    have HC := Lib.hid C1
    have HR := Lib.hid hr
    clear hr hk C1
    go_wp2_with fail
    refine bodyPost_ret (v := .tuple #[.slice a l.length cc, .int .i64 0]) (by simp [results, Tryz.results62, go_sem]) rfl ⟨?_, HF1.out⟩
    rw [HR.out]
    exact ⟨a, cc, rfl, HK.out, HC.out⟩
def nameParseOut (w w' : World) (r : Except Int (List (List Part))) (e : Ending) : Prop :=
  match r with
  | .ok l => ∃ a cc, e = .returned (.tuple #[.slice a l.length cc, .int .i64 0]) ∧ Kept (fun W => NameAt W (.slice a l.length cc) l) (fun k => k < w.heap.size) w'
  | .error x => e = .returned (.tuple #[.slice none 0 0, .int .i64 x]) ∧ x ≠ 0
set_option maxRecDepth 20000 in
set_option maxHeartbeats 1000000 in
theorem nameParse_any (v : Value) (bs : List UInt8) (w : World) (h : Bytes w v bs) (hbs : bs.length ≤ 10000000) :
    Calls Tryz.prog 12 #[v] w fun e w' => nameParseOut w w' (nameParseS bs) e ∧ Fr (fun _ => False) w w' := by
  have hN := Lib.hid (new_any w v bs h (by omega))
  have HPS := Lib.hid (show nameParseS bs = match nameReadS bs with | .error e => .error e | .ok (n, k) => if k < bs.length then .error 7 else .ok n from rfl)
  clear h
  go_enter Tryz.func12, Tryz.ntmps12
  go_wp2_with fail
  refine hN.out.mono ?_
  rintro e w1 ⟨rfl, C1, F1⟩
  obtain ⟨c, hc⟩ : ∃ c, c = w.heap.size := ⟨_, rfl⟩
  have HF1 := Lib.hid F1
  have hs1 := F1.size
  have HX := Lib.hid (nameRead_any C1 hbs)
  rw [List.drop_zero] at HX
  rw [← hc] at HX ⊢
  have HC := Lib.hid hc
  clear C1 F1 hN hc
  go_wp2_with fail
  refine HX.out.mono ?_
  rintro e w2 ⟨hout, F2⟩
  have HF2 := Lib.hid (HF1.out.trans' F2 (fun i hi e => absurd hi (by rw [e, HC.out]; exact Nat.lt_irrefl _)))
  clear F2 HX HF1
  unfold nameReadOut at hout
  cases hr : nameReadS bs with
  | error x =>
    rw [hr] at hout
    obtain ⟨rfl, hx, -⟩ := hout
    have hx1 : (x == 0) = false := beq_eq_false_iff_ne.2 hx
    have hx2 : (x != 0) = true := by simpa using hx
    have hp := HPS.out
    rw [hr] at hp
    have HP := Lib.hid hp
    have HX := Lib.hid hx
    clear hr hx hp HPS
    go_wp2_with fail
    refine bodyPost_ret (v := .tuple #[.slice none 0 0, .int .i64 x]) (by simp [results, Tryz.results12, go_sem]) rfl ⟨?_, HF2.out⟩
    rw [HP.out]
    exact ⟨rfl, HX.out⟩
  | ok lm =>
    obtain ⟨l, m⟩ := lm
    rw [hr] at hout
    obtain ⟨a, cc, rfl, hk, C2⟩ := hout
    have hp := HPS.out
    rw [hr] at hp
    simp only at hp
    have HL := Lib.hid (left_any C2)
    rw [Nat.zero_add] at HL
    have HK := Lib.hid hk
    clear hr hk C2 HPS
    by_cases hm : m < bs.length
    · have q1 : (0 : Int) < ((bs.length - m : Nat) : Int) := by omega
      rw [if_pos hm] at hp
      have HP := Lib.hid hp
      clear hp hm
      generalize bs.length - m = lm at *
      go_wp2_with fail
      refine HL.out.mono ?_
      rintro e w3 ⟨rfl, F3⟩
      have HF3 := Lib.hid (HF2.out.trans F3)
      clear F3 HL
      go_wp2_with fail
      refine bodyPost_ret (v := .tuple #[.slice none 0 0, .int .i64 7]) (by simp [results, Tryz.results12, go_sem]) rfl ⟨?_, HF3.out⟩
      rw [HP.out]
      exact ⟨rfl, by decide⟩
    · have q1 : bs.length - m = 0 := by omega
      rw [if_neg hm] at hp
      have HP := Lib.hid hp
      rw [q1] at HL
      clear hp hm q1
      go_wp2_with fail
      refine HL.out.mono ?_
      rintro e w3 ⟨rfl, F3⟩
      have HF3 := Lib.hid (HF2.out.trans F3)
      have HK3 := Lib.hid (HK.out.old F3)
      clear F3 HL HK
      go_wp2_with fail
      refine bodyPost_ret (v := .tuple #[.slice a l.length cc, .int .i64 0]) (by simp [results, Tryz.results12, go_sem]) rfl ⟨?_, HF3.out⟩
      rw [HP.out]
      exact ⟨a, cc, rfl, fun W f => HK3.out W (f.mono (fun k _ hk => Nat.lt_of_lt_of_le hk hs1))⟩
end Go.Proofs.YtacekpdjapgfcaaGreatDoor

namespace Go.Proofs.YtacekpdjapgfcaaGreatDoor
open Go Go.RowKit Go.Q
set_option linter.unusedSimpArgs false
def rOidOut (w w' : World) (p : Nat) (r : Except Int (List Int × Nat)) (e : Ending) : Prop :=
  match r with
  | .error x => e = .returned (.tuple #[.slice none 0 0, .int .i64 p, .int .i64 x])
  | .ok (o, k) => ∃ a c, e = .returned (.tuple #[.slice a o.length c, .int .i64 ((p + k : Nat) : Int), .int .i64 0]) ∧ w'.ownsRow w.heap.size 3 1 (.slice a o.length c) o.length (intCells o)
end Go.Proofs.YtacekpdjapgfcaaGreatDoor

namespace Go.Proofs.YtacekpdjapgfcaaGreatDoor
open Go Go.RowKit Go.Q
set_option linter.unusedSimpArgs false
def rStepOut (K : Nat → Prop) (w' : World) (p : Nat) (r : Except Int (List Part × Nat)) (e : Ending) : Prop :=
  match r with
  | .error x => e = .returned (.tuple #[.slice none 0 0, .int .i64 p, .int .i64 x])
  | .ok (l, k) => ∃ a c, e = .returned (.tuple #[.slice a l.length c, .int .i64 ((p + k : Nat) : Int), .int .i64 0]) ∧ Kept (fun W => Attrs W (.slice a l.length c) l) K w'
end Go.Proofs.YtacekpdjapgfcaaGreatDoor

namespace Go.Q
open Go Go.RowKit
end Go.Q
namespace Go.Proofs.YtacekpdjapgfcaaGreatDoor
open Go Go.RowKit Go.Q
set_option linter.unusedSimpArgs false
def rNameOut (K : Nat → Prop) (w' : World) (p : Nat) (r : Except Int (List (List Part) × Nat)) (e : Ending) : Prop :=
  match r with
  | .error x => e = .returned (.tuple #[.slice none 0 0, .int .i64 p, .int .i64 x])
  | .ok (l, k) => ∃ a c, e = .returned (.tuple #[.slice a l.length c, .int .i64 ((p + k : Nat) : Int), .int .i64 0]) ∧ Kept (fun W => NameAt W (.slice a l.length c) l) K w'
def rParseOut (K : Nat → Prop) (w' : World) (r : Except Int (List (List Part))) (e : Ending) : Prop :=
  match r with
  | .error x => e = .returned (.tuple #[.slice none 0 0, .int .i64 x])
  | .ok l => ∃ a c, e = .returned (.tuple #[.slice a l.length c, .int .i64 0]) ∧ Kept (fun W => NameAt W (.slice a l.length c) l) K w'
end Go.Proofs.YtacekpdjapgfcaaGreatDoor

namespace Go.Proofs.YtacekpdjapgfcaaGreatDoor
open Go Go.RowKit Go.Q
set_option linter.unusedSimpArgs false
theorem made_any (k : Int) (w : World) :
    Calls Tryz.prog 120 #[.int .i64 k] w fun e w' => e = .returned (.bool (madeG k)) ∧ w = w' := by
  have hk : k = 0 ∨ k = 3 ∨ k = 4 ∨ k = 5 ∨ ((k == 0) = false ∧ (k == 3) = false ∧ (k == 4) = false ∧ (k == 5) = false) := by
    simp only [beq_eq_false_iff_ne]
    omega
  rcases hk with rfl | rfl | rfl | rfl | ⟨h0, h3, h4, h5⟩
  all_goals
    go_enter Tryz.func120, Tryz.ntmps120
    go_wp2_with fail
    go_ret
    first | exact ⟨rfl, rfl⟩ | exact ⟨by simp [madeG, h0, h3, h4, h5], rfl⟩
theorem plain1_any (c : UInt8) (w : World) :
    Calls Tryz.prog 180 #[.int .u8 c.toNat] w fun e w' => e = .returned (.bool (decide (127 < c.toNat))) ∧ w = w' := by
  have hd : decide ((127 : Int) < (c.toNat : Int)) = decide (127 < c.toNat) := decide_eq_decide.2 (by omega)
  go_enter Tryz.func180, Tryz.ntmps180
  go_wp2_with fail
  go_ret
  exact ⟨by rw [← hd]; rfl, rfl⟩
set_option maxRecDepth 20000 in
set_option maxHeartbeats 1000000 in
theorem indexPlain_any (v : Value) (b : List UInt8) (w : World) (h : Bytes w v b) :
    Calls Tryz.prog 230 #[v, .func (.func 180) #[] #[]] w fun e w' => (∃ x : Int, e = .returned (.int .i64 x) ∧ decide (0 ≤ x) = !(b.all (fun c => decide (c.toNat ≤ 127)))) ∧ w = w' := by
  have H := Lib.hid h
  obtain ⟨a, cap, rfl, hc, hm, -⟩ := h.form
  have hm2 : cap ≤ 9223372036854775807 := by unfold maxLen at hm; omega
  clear h hm
  go_enter Tryz.func230, Tryz.ntmps230
  go_wp2_with fail
  go_loopg [8] b.length (fun g i wr => ∃ j : Nat, g = b.length - j ∧ j ≤ b.length ∧ i = .int .i64 j ∧ (∀ c ∈ b.take j, c.toNat ≤ 127) ∧ wr = w)
  case atStart => exact ⟨0, rfl, Nat.zero_le _, rfl, by simp, rfl⟩
  case round =>
    obtain ⟨j, hg, hj, rfl, hall, rfl⟩ := hrel
    have HG := Lib.hid hg
    have HA := Lib.hid hall
    clear hg hall
    by_cases hjl : j < b.length
    · obtain ⟨a0, c0, he, -, -, hx⟩ := H.out.form
      simp only [Value.slice.injEq, true_and] at he
      obtain ⟨rfl, rfl⟩ := he
      obtain ⟨k, o, rfl, hy⟩ := hx (by omega)
      obtain ⟨c, hc1⟩ : ∃ c, b[j]? = some c := ⟨_, List.getElem?_eq_getElem hjl⟩
      have e1 := hy j c hc1
      have HC := Lib.hid hc1
      have r1 : (0 : Int) ≤ (j : Int) := by omega
      have r2 : (j : Int) < (b.length : Int) := by omega
      clear hx hy hc1
      obtain ⟨d, hd⟩ : ∃ d, d = decide (127 < c.toNat) := ⟨_, rfl⟩
      have HP := Lib.hid (plain1_any c wr)
      rw [← hd] at HP
      have HD := Lib.hid hd
      clear hd
      go_wp2_with fail
      refine HP.out.mono ?_
      rintro e w1 ⟨rfl, rfl⟩
      cases d with
      | true =>
        go_wp2_with fail
        go_ret
        refine ⟨⟨(j : Int), rfl, ?_⟩, rfl⟩
        have h1 := of_decide_eq_true HD.out.symm
        have h2 : b.all (fun c => decide (c.toNat ≤ 127)) = false := by
          rw [List.all_eq_false]
          exact ⟨c, List.mem_of_getElem? HC.out, by simp; omega⟩
        rw [h2, decide_eq_true (by omega)]
        rfl
      | false =>
        have h1 := of_decide_eq_false HD.out.symm
        have HN := Lib.hid (show ∀ x ∈ b.take (j + 1), x.toNat ≤ 127 from fun x hx => by
          rw [List.take_add_one, HC.out] at hx
          rcases List.mem_append.1 hx with h | h
          · exact HA.out x h
          · simp at h
            subst h
            omega)
        clear h1
        go_wp2_with fail
        go_roundg (b.length - (j + 1))
        case measure => rw [HG.out]; omega
        case rel => exact ⟨j + 1, rfl, by omega, by go_num, HN.out, rfl⟩
    · have hall := HA.out
      rw [List.take_of_length_le (by omega)] at hall
      have HN := Lib.hid (show b.all (fun c => decide (c.toNat ≤ 127)) = true from List.all_eq_true.2 fun x hx => decide_eq_true (hall x hx))
      clear hall
      go_wp2_with fail
      go_ret
      exact ⟨⟨-1, rfl, by rw [HN.out]; rfl⟩, rfl⟩
set_option maxRecDepth 20000 in
theorem containsPlain_any (v : Value) (b : List UInt8) (w : World) (h : Bytes w v b) :
    Calls Tryz.prog 179 #[v, .func (.func 180) #[] #[]] w fun e w' => e = .returned (.bool (!(b.all (fun c => decide (c.toNat ≤ 127))))) ∧ w = w' := by
  have HI := Lib.hid (indexPlain_any v b w h)
  clear h
  go_enter Tryz.func179, Tryz.ntmps179
  go_wp2_with fail
  refine HI.out.mono ?_
  rintro e w1 ⟨⟨x, rfl, hx⟩, rfl⟩
  have HX := Lib.hid hx
  clear hx
  go_wp2_with fail
  go_ret
  exact ⟨by rw [← HX.out]; rfl, rfl⟩
set_option maxRecDepth 20000 in
theorem plain_any (v : Value) (b : List UInt8) (w : World) (h : Bytes w v b) :
    Calls Tryz.prog 139 #[v] w fun e w' => e = .returned (.bool (plainB b)) ∧ Fr (fun _ => False) w w' := by
  obtain ⟨a, cap, rfl, -⟩ := h.form
  have HC := Lib.hid (containsPlain_any _ b w h)
  clear h
  have hp : plainB b = (decide (0 < b.length) && b.all (fun c => decide (c.toNat ≤ 127))) := rfl
  have HP := Lib.hid hp
  clear hp
  by_cases h0 : 0 < b.length
  · have q1 : decide ((0 : Int) < (b.length : Int)) = true := decide_eq_true (by omega)
    have q2 : (0 : Int) < (b.length : Int) := by omega
    obtain ⟨d, hd⟩ : ∃ d, d = b.all (fun c => decide (c.toNat ≤ 127)) := ⟨_, rfl⟩
    rw [← hd] at HC HP
    rw [decide_eq_true h0, Bool.true_and] at HP
    clear hd
    cases d
    all_goals
      go_enter Tryz.func139, Tryz.ntmps139
      go_wp2_with fail
      refine HC.out.mono ?_
      rintro e w1 ⟨rfl, rfl⟩
      go_wp2_with fail
      go_ret
      exact ⟨by rw [HP.out]; rfl, Fr.refl _⟩
  · have q1 : decide ((0 : Int) < (b.length : Int)) = false := decide_eq_false (by omega)
    have q2 : ¬ (0 : Int) < (b.length : Int) := by omega
    rw [decide_eq_false h0, Bool.false_and] at HP
    go_enter Tryz.func139, Tryz.ntmps139
    go_wp2_with fail
    go_ret
    exact ⟨by rw [HP.out]; rfl, Fr.refl _⟩
set_option maxRecDepth 20000 in
set_option maxHeartbeats 1000000 in
theorem wholesG_any (v : Value) (l : List UInt8) (w : World) (h : Bytes w v l) (hl : l.length ≤ 1099511627776) :
    Calls Tryz.prog 141 #[v] w fun e w' => e = .returned (.bool (wholesB l)) ∧ Fr (fun _ => False) w w' := by
  have hN := Lib.hid (new_any w v l h hl)
  clear h
  go_enter Tryz.func141, Tryz.ntmps141
  go_wp2_with fail
  refine hN.out.mono ?_
  rintro e w1 ⟨rfl, C1, F1⟩
  have HC := Lib.hid C1
  have HF := Lib.hid F1
  obtain ⟨c, hc⟩ : ∃ c, c = w.heap.size := ⟨_, rfl⟩
  rw [← hc] at HC ⊢
  have HCC := Lib.hid hc
  clear C1 F1 hN hc
  go_wp2_with fail
  refine (wholes_any HC.out).mono ?_
  rintro e w2 ⟨hout, F2⟩
  rw [List.drop_zero] at hout
  have G2 := HF.out.trans' F2 (fun i hi e => absurd hi (by rw [e, HCC.out]; exact Nat.lt_irrefl _))
  unfold wholesOut at hout
  have HG := Lib.hid G2
  clear F2 G2 HF
  cases hr : allS l with
  | error x =>
    rw [hr] at hout
    subst hout
    have hx1 : (x == 0) = false := beq_eq_false_iff_ne.2 (allS_pos hr)
    have hs : wholesB l = false := by unfold wholesB; rw [hr]
    have HS := Lib.hid hs
    clear hs hr
    go_wp2_with fail
    go_ret
    exact ⟨by rw [HS.out]; rfl, HG.out⟩
  | ok ls =>
    rw [hr] at hout
    obtain ⟨a, cap, rfl⟩ := hout
    have hs : wholesB l = decide (0 < ls.length) := by unfold wholesB; rw [hr]
    clear hr
    generalize ls.length = n at *
    have HS := Lib.hid hs
    clear hs
    go_wp2_with fail
    go_ret
    exact ⟨by rw [HS.out]; rfl, HG.out⟩
set_option maxRecDepth 20000 in
set_option maxHeartbeats 1000000 in
theorem genCont_any (k : Int) (v : Value) (b : List UInt8) (w : World) (h : Bytes w v b) (hl : b.length ≤ 1099511627776) :
    Calls Tryz.prog 93 #[.int .i64 k, v] w fun e w' => e = .returned (.bool (contB k b)) ∧ Fr (fun _ => False) w w' := by
  have H := Lib.hid h
  obtain ⟨a, cap, rfl, -⟩ := h.form
  clear h
  have hk : (k = 1 ∨ k = 2 ∨ k = 6) ∨ k = 7 ∨ k = 8 ∨ (k = 0 ∨ k = 3 ∨ k = 5) ∨ ((k == 0) = false ∧ (k == 1) = false ∧ (k == 2) = false ∧ (k == 3) = false ∧ (k == 5) = false ∧ (k == 6) = false ∧ (k == 7) = false ∧ (k == 8) = false) := by
    simp only [beq_eq_false_iff_ne]
    omega
  rcases hk with hk | rfl | rfl | hk | ⟨h0, h1, h2, h3, h5, h6, h7, h8⟩
  · have HC := Lib.hid (show contB k b = plainB b from if_pos hk)
    rcases hk with rfl | rfl | rfl
    all_goals
      go_enter Tryz.func93, Tryz.ntmps93
      go_wp2_with fail
      refine (plain_any _ b w H.out).mono ?_
      rintro e w1 ⟨rfl, F1⟩
      go_wp2_with fail
      go_ret
      exact ⟨by rw [HC.out]; rfl, F1⟩
  · have HC := Lib.hid (show contB 7 b = decide (b.length = 4 ∨ b.length = 16) from rfl)
    rcases Nat.decEq b.length 4 with h4 | h4
    · have q1 : ((b.length : Int) == 4) = false := beq_eq_false_iff_ne.2 (by omega)
      have q2 : (b.length == 4) = false := beq_eq_false_iff_ne.2 h4
      rcases Nat.decEq b.length 16 with h16 | h16
      · have q3 : ((b.length : Int) == 16) = false := beq_eq_false_iff_ne.2 (by omega)
        have q4 : (b.length == 16) = false := beq_eq_false_iff_ne.2 h16
        go_enter Tryz.func93, Tryz.ntmps93
        go_wp2_with fail
        go_ret
        exact ⟨by rw [HC.out, decide_eq_false (by omega)]; rfl, Fr.refl _⟩
      · have q3 : ((b.length : Int) == 16) = true := by rw [h16]; rfl
        have q4 : (b.length == 16) = true := by rw [h16]; rfl
        go_enter Tryz.func93, Tryz.ntmps93
        go_wp2_with fail
        go_ret
        exact ⟨by rw [HC.out, decide_eq_true (by omega)]; rfl, Fr.refl _⟩
    · have q1 : ((b.length : Int) == 4) = true := by rw [h4]; rfl
      have q2 : (b.length == 4) = true := by rw [h4]; rfl
      go_enter Tryz.func93, Tryz.ntmps93
      go_wp2_with fail
      go_ret
      exact ⟨by rw [HC.out, decide_eq_true (by omega)]; rfl, Fr.refl _⟩
  · have HC := Lib.hid (show contB 8 b = oidB b from rfl)
    have HO := Lib.hid (oidParse_any _ b w H.out hl)
    go_enter Tryz.func93, Tryz.ntmps93
    go_wp2_with fail
    refine HO.out.mono ?_
    rintro e w1 ⟨hout, F1⟩
    have HF1 := Lib.hid F1
    clear F1 HO
    unfold oidParseOut at hout
    cases hr : oidParseS b with
    | error x =>
      rw [hr] at hout
      subst hout
      have hx1 : (x == 0) = false := beq_eq_false_iff_ne.2 (oidParse_nz hr)
      have HS := Lib.hid (show oidB b = false by unfold oidB; rw [hr])
      clear hr
      go_wp2_with fail
      go_ret
      exact ⟨by rw [HC.out, HS.out]; rfl, HF1.out⟩
    | ok o =>
      rw [hr] at hout
      obtain ⟨ao, co, rfl, -⟩ := hout
      have HS := Lib.hid (show oidB b = true by unfold oidB; rw [hr])
      clear hr
      go_wp2_with fail
      go_ret
      exact ⟨by rw [HC.out, HS.out]; rfl, HF1.out⟩
  · have HC := Lib.hid (show contB k b = wholesB b by
      unfold contB
      rw [if_neg (by omega), if_neg (by omega), if_neg (by omega), if_pos hk])
    rcases hk with rfl | rfl | rfl
    all_goals
      go_enter Tryz.func93, Tryz.ntmps93
      go_wp2_with fail
      refine (wholesG_any _ b w H.out hl).mono ?_
      rintro e w1 ⟨rfl, F1⟩
      go_wp2_with fail
      go_ret
      exact ⟨by rw [HC.out]; rfl, F1⟩
  · have HC := Lib.hid (show contB k b = false by
      simp only [beq_eq_false_iff_ne] at h0 h1 h2 h3 h5 h6 h7 h8
      unfold contB
      rw [if_neg (by omega), if_neg (by omega), if_neg (by omega), if_neg (by omega)])
    go_enter Tryz.func93, Tryz.ntmps93
    go_wp2_with fail
    go_ret
    exact ⟨by rw [HC.out]; rfl, Fr.refl _⟩
end Go.Proofs.YtacekpdjapgfcaaGreatDoor

namespace Go.Proofs.YtacekpdjapgfcaaGreatDoor
open Go Go.RowKit Go.Q
set_option linter.unusedSimpArgs false
set_option maxRecDepth 20000 in
set_option maxHeartbeats 2000000 in
theorem genRight_any (u : Value) (g : Gen) (w : World) (h : GenAt w u g) (hf : fewG g) :
    Calls Tryz.prog 43 #[u] w fun e w' => e = .returned (.bool (genOk g)) ∧ Fr (fun _ => False) w w' := by
  obtain ⟨ab, cb, an, cn, rfl, hb, hn⟩ := h.form
  obtain ⟨k, b, n⟩ := g
  obtain ⟨f1, f2⟩ := hf
  simp only at hb hn f1 f2 ⊢
  have F0 : Fr (fun _ => False) w (w.alloc (.cells #[.int .i64 k, .slice ab b.length cb, .slice an n.length cn] 42)) := (Fr.refl w).alloc _
  have B := Blk.new w 42 #[.int .i64 k, .slice ab b.length cb, .slice an n.length cn]
  obtain ⟨z, hz⟩ : ∃ z, z = w.heap.size := ⟨_, rfl⟩
  rw [← hz] at B
  have HZ := Lib.hid hz
  have HB := Lib.hid (hb.old F0)
  have HN := Lib.hid (hn.old F0)
  have HF0 := Lib.hid F0
  have HF2 := Lib.hid f2
  have hg : genOk ⟨k, b, n⟩ = if k = 4 then decide (b.length = 0) && nameOk n else decide (n.length = 0) && contB k b := rfl
  have HG := Lib.hid hg
  clear h hb hn hz F0 f2 hg
  go_enter Tryz.func43, Tryz.ntmps43
  go_upto_region 1 with fail
  rw [← HZ.out]
  generalize (w.alloc (.cells #[.int .i64 k, .slice ab b.length cb, .slice an n.length cn] 42)) = w0 at *
  have e0 := B.cell 0
  have e1 := B.cell 1
  have e2 := B.cell 2
  simp only [List.getElem?_toArray, List.getElem?_cons_succ, List.getElem?_cons_zero] at e0 e1 e2
  by_cases h4 : k = 4
  · subst h4
    rw [if_pos rfl] at HG
    by_cases h0 : b.length = 0
    · have q1 : ((b.length : Int) == 0) = true := by rw [h0]; rfl
      have q2 : (b.length == 0) = true := by rw [h0]; rfl
      rw [decide_eq_true h0, Bool.true_and] at HG
      have HR := Lib.hid (right_any _ n w0 HN.out HF2.out)
      clear h0
      go_wp2_with fail
      refine HR.out.mono ?_
      rintro e w1 ⟨rfl, F1⟩
      go_wp2_with fail
      go_ret
      exact ⟨by rw [HG.out]; rfl, HF0.out.trans F1⟩
    · have q1 : ((b.length : Int) == 0) = false := beq_eq_false_iff_ne.2 (by omega)
      have q2 : (b.length == 0) = false := beq_eq_false_iff_ne.2 (by omega)
      rw [decide_eq_false h0, Bool.false_and] at HG
      go_wp2_with fail
      go_ret
      exact ⟨by rw [HG.out]; rfl, HF0.out⟩
  · have k4 : (k == 4) = false := beq_eq_false_iff_ne.2 h4
    rw [if_neg h4] at HG
    by_cases h0 : n.length = 0
    · have q1 : ((n.length : Int) == 0) = true := by rw [h0]; rfl
      have q2 : (n.length == 0) = true := by rw [h0]; rfl
      rw [decide_eq_true h0, Bool.true_and] at HG
      have HC := Lib.hid (genCont_any k _ b w0 HB.out (by omega))
      clear h0
      go_wp2_with fail
      refine HC.out.mono ?_
      rintro e w1 ⟨rfl, F1⟩
      go_wp2_with fail
      go_ret
      exact ⟨by rw [HG.out]; rfl, HF0.out.trans F1⟩
    · have q1 : ((n.length : Int) == 0) = false := beq_eq_false_iff_ne.2 (by omega)
      have q2 : (n.length == 0) = false := beq_eq_false_iff_ne.2 (by omega)
      rw [decide_eq_false h0, Bool.false_and] at HG
      go_wp2_with fail
      go_ret
      exact ⟨by rw [HG.out]; rfl, HF0.out⟩
end Go.Proofs.YtacekpdjapgfcaaGreatDoor

namespace Go.Q
open Go Go.RowKit
abbrev oneN (o : List Int) (v : List UInt8) : List (List Part) := [[⟨o, v⟩]]
end Go.Q

namespace Go.Q
open Go Go.RowKit
def knT1 : List UInt8 := [50, 46, 53, 46, 52, 46, 51, 61, 67, 65]
def knT2 : List UInt8 := [50, 46, 53, 46, 52, 46, 49, 48, 61, 32, 70, 111, 111, 32, 32, 66, 97, 114, 32]
def knT3 : List UInt8 := [50, 46, 53, 46, 52, 46, 51, 61, 99, 97]
def knT4 : List UInt8 := [50, 46, 53, 46, 52, 46, 49, 48, 61, 102, 111, 111, 32, 98, 97, 114]
def knV1 : List UInt8 := wrapS (tagOf 19) ([67, 65])
def knV2 : List UInt8 := wrapS (tagOf 19) ([32, 70, 111, 111, 32, 32, 66, 97, 114, 32])
def knV3 : List UInt8 := wrapS (tagOf 19) ([99, 97])
def knV4 : List UInt8 := wrapS (tagOf 19) ([102, 111, 111, 32, 98, 97, 114])
def knA : List (List Part) := [[⟨[2, 5, 4, 3], knV1⟩], [⟨[2, 5, 4, 10], knV2⟩]]
def knB : List (List Part) := [[⟨[2, 5, 4, 3], knV3⟩], [⟨[2, 5, 4, 10], knV4⟩]]
theorem NameAt.take {w : World} {a : Option Addr} {m cap : Nat} {n : List (List Part)} (h : NameAt w (.slice a m cap) n) (k : Nat) (hk : k ≤ n.length) (cap' : Nat) (hc : k ≤ cap') (hm : cap' ≤ maxLen) : NameAt w (.slice a k cap') (n.take k) := by
  obtain ⟨a0, cap0, he, h1, h2, h3⟩ := h
  simp only [Value.slice.injEq] at he
  obtain ⟨rfl, rfl, rfl⟩ := he
  have hl : (n.take k).length = k := by rw [List.length_take]; omega
  refine ⟨a, cap', by rw [hl], by omega, hm, fun h0 => ?_⟩
  obtain ⟨b, o, rfl, hy⟩ := h3 (by omega)
  refine ⟨b, o, rfl, fun i r hr => hy i r ?_⟩
  rw [List.getElem?_take] at hr
  split at hr
  · exact hr
  · cases hr
end Go.Q

namespace Go.Proofs.YtacekpdjapgfcaaGreatDoor
open Go Go.RowKit Go.Q
end Go.Proofs.YtacekpdjapgfcaaGreatDoor

namespace Go.Q
open Go Go.RowKit
theorem cutName_200 (n : List (List Part)) : ∀ r ∈ cutName n, ∀ p ∈ r, p.b.length ≤ 200 := fun r hr p hp => by
  obtain ⟨q, -, rfl⟩ := List.mem_map.1 hr
  obtain ⟨s, -, rfl⟩ := List.mem_map.1 hp
  show (s.b.take 200).length ≤ 200
  rw [List.length_take]
  omega
theorem whole_part {n : List (List Part)} (h : nameOk n = true) {m : Nat} (hm : (nameWhole n).length ≤ m) : (wholesN n).flatten.length ≤ m ∧ ∀ r ∈ n, ∀ p ∈ r, p.b.length ≤ m := by
  obtain ⟨h1, h2⟩ := name_rdns h
  have h3 : (wholesN n).flatten.length ≤ m := by
    unfold nameWhole at hm
    rw [wrap_len] at hm
    omega
  refine ⟨h3, fun r hr p hp => ?_⟩
  obtain ⟨ws, hws⟩ := Option.isSome_iff_exists.1 (h2 r hr)
  have hmem : rdnWhole ws ∈ wholesN n := by
    unfold wholesN
    rw [List.mem_map]
    exact ⟨r, hr, by rw [hws]; rfl⟩
  have h4 := mem_flat hmem
  obtain ⟨-, -, hg⟩ := rdn_get hws
  obtain ⟨i, hi⟩ := List.mem_iff_getElem?.1 hp
  obtain ⟨x, hx, ha⟩ := hg i p hi
  have h5 := mem_flat (List.mem_of_getElem? hx)
  have h6 : ws.flatten.length ≤ (rdnWhole ws).length := by
    unfold rdnWhole
    rw [wrap_len]
    omega
  have h7 : p.b.length ≤ x.length := by
    unfold attrS at ha
    split at ha
    · simp only [Option.some.injEq] at ha
      subst ha
      rw [wrap_len, List.length_append]
      omega
    · cases ha
  omega
end Go.Q
namespace Go.Proofs.YtacekpdjapgfcaaGreatDoor
open Go Go.RowKit Go.Q
set_option linter.unusedSimpArgs false
end Go.Proofs.YtacekpdjapgfcaaGreatDoor

namespace Go.Q
open Go Go.RowKit
theorem nameParse_few {l : List UInt8} {n : List (List Part)} (h : nameParseS l = .ok n) (hl : l.length ≤ 10000000) : nameOk n = true ∧ ∀ r ∈ n, fewB r := by
  obtain ⟨h1, h2⟩ := nameParse_back h
  obtain ⟨-, h3⟩ := whole_part h1 (m := 10000000) (by rw [h2]; exact hl)
  exact ⟨h1, h3⟩
end Go.Q
namespace Go.Proofs.YtacekpdjapgfcaaGreatDoor
open Go Go.RowKit Go.Q
set_option linter.unusedSimpArgs false
def genOut (w w' : World) (c : Nat) (K : Nat → Prop) (bs : List UInt8) (p : Nat) (r : Except Int (Gen × Nat)) (e : Ending) : Prop :=
  match r with
  | .ok (g, m) => ∃ ab cb an cn, e = .returned (.tuple #[.agg #[.int .i64 g.k, .slice ab g.b.length cb, .slice an g.n.length cn], .int .i64 0]) ∧ Kept (fun W => Bytes W (.slice ab g.b.length cb) g.b ∧ NameAt W (.slice an g.n.length cn) g.n) (fun k => k < w.heap.size) w' ∧ CurAt w' c K bs (p + m)
  | .error x => e = .returned (.tuple #[.agg #[.int .i64 0, .slice none 0 0, .slice none 0 0], .int .i64 x]) ∧ x ≠ 0 ∧ ∃ q, p ≤ q ∧ CurAt w' c K bs q
theorem name_nil (K : Nat → Prop) (w : World) : Kept (fun W => NameAt W (.slice none 0 0) []) K w := fun _ _ => ⟨none, 0, rfl, Nat.le_refl _, Nat.zero_le _, fun h => absurd h (Nat.lt_irrefl _)⟩
set_option maxRecDepth 20000 in
set_option maxHeartbeats 8000000 in
theorem genR_any {w : World} {c : Nat} {K : Nat → Prop} {bs : List UInt8} {p : Nat} (h : CurAt w c K bs p) (hbs : bs.length ≤ 10000000) :
    Calls Tryz.prog 72 #[pt c] w fun e w' => genOut w w' c K bs p (genReadS (bs.drop p)) e ∧ Fr (fun k => k = c) w w' := by
  have hcl := h.lt
  obtain ⟨z, hz⟩ : ∃ z, z = w.heap.size := ⟨_, rfl⟩
  have F0 : Fr (fun _ => False) w (w.alloc (.cells #[.int .i64 0, .slice none 0 0, .slice none 0 0] 42)) := (Fr.refl w).alloc _
  have B0 := Blk.new w 42 #[.int .i64 0, .slice none 0 0, .slice none 0 0]
  have H := Lib.hid (h.step (K' := fun k => K k ∨ w.heap.size ≤ k) F0 (fun _ _ h => h.elim) (fun _ h => h))
  rw [← hz] at B0
  have hzc : z ≠ c := by omega
  have HZ := Lib.hid hz
  clear h hz
  go_enter Tryz.func72, Tryz.ntmps72
  go_upto_region 1 with fail
  rw [← HZ.out]
  generalize (w.alloc (.cells #[.int .i64 0, .slice none 0 0, .slice none 0 0] 42)) = w0 at *
  have HB0 := Lib.hid B0
  have HF0 := Lib.hid (F0.mono (T := fun k => k = c) (fun _ _ h => h.elim))
  have hs0 := F0.size
  have HRD := Lib.hid (headRead_any H.out)
  clear F0 B0 H
  go_wp2_with fail
  refine HRD.out.mono ?_
  rintro e w1 ⟨⟨⟨tc, tn, tm⟩, n, x, rfl, ht⟩, C1, F1⟩
  rw [show tagV ⟨tc, tn, tm⟩ = .agg #[.int .i64 tc, .int .i64 tn, .bool tm] from rfl]
  obtain ⟨y, hy⟩ : ∃ y, y = w1.heap.size := ⟨_, rfl⟩
  have F2 : Fr (fun _ => False) w1 (w1.alloc (.cells #[.int .i64 tc, .int .i64 tn, .bool tm] 97)) := (Fr.refl w1).alloc _
  have BZ := (HB0.out.fr F1 hzc).fr F2 (fun h => h)
  have BY := Blk.new w1 97 #[.int .i64 tc, .int .i64 tn, .bool tm]
  rw [← hy] at BY
  have hs1 := F1.size
  have hzy : z ≠ y := by have := (HB0.out.fr F1 hzc).lt; omega
  have hyw : w.heap.size ≤ y := by omega
  have hyc : y ≠ c := by omega
  have HC2 := Lib.hid (C1.old F2)
  have HF2 := Lib.hid ((HF0.out.trans F1).trans (F2.mono (T := fun k => k = c) (fun _ _ h => h.elim)))
  have HT := Lib.hid ht
  have hs2 := F2.size
  clear C1 F1 F2 ht HRD HF0 HB0
  go_upto_region 2 with fail
  rw [← hy]
  have HY := Lib.hid hy
  clear hy
  generalize (w1.alloc (.cells #[.int .i64 tc, .int .i64 tn, .bool tm] 97)) = w2 at *
  have HBZ := Lib.hid BZ
  have HBY := Lib.hid BY
  clear BZ BY
  have endK : ∀ (W : World) (q : Nat), CurAt W c (fun k => K k ∨ w.heap.size ≤ k) bs q → CurAt W c K bs q := fun W q C => C.step (K' := K) (Fr.refl W) (S := fun _ => False) (fun _ _ h => h.elim) (fun k hk => .inl (.inl hk))
  have EK := Lib.hid endK
  clear endK
  have errs : ∀ (W : World) (x : Int) (q : Nat), Blk W z 42 #[.int .i64 0, .slice none 0 0, .slice none 0 0] → CurAt W c (fun k => K k ∨ w.heap.size ≤ k) bs q → p ≤ q → Fr (fun k => k = c) w W → x ≠ 0 → genReadS (bs.drop p) = .error x →
      ∃ W', W' = (((W.setCell ⟨z, 0, none⟩ (.int .i64 0)).setCell ⟨z, 1, none⟩ (.slice none 0 0)).setCell ⟨z, 2, none⟩ (.slice none 0 0)) ∧ Blk W' z 42 #[.int .i64 0, .slice none 0 0, .slice none 0 0] ∧ genOut w W' c K bs p (genReadS (bs.drop p)) (.returned (.tuple #[.agg #[.int .i64 0, .slice none 0 0, .slice none 0 0], .int .i64 x])) ∧ Fr (fun k => k = c) w W' := by
    intro W x q B C hq F hx hr
    obtain ⟨B5, F5⟩ := set3 B (.int .i64 0) (.slice none 0 0) (.slice none 0 0)
    refine ⟨_, rfl, B5, ?_, F.trans' F5 (fun i hi e => by have := HZ.out; omega)⟩
    rw [hr]
    exact ⟨rfl, hx, q, hq, EK.out _ _ (C.step (K' := fun k => K k ∨ w.heap.size ≤ k) F5 (fun k _ e => .inr (by have := HZ.out; omega)) (fun _ h => .inl h))⟩
  have ERR := Lib.hid errs
  clear errs
  cases hr : readS (bs.drop p) with
  | error e0 =>
    have ht := HT.out
    have hc := HC2.out
    rw [hr] at ht hc
    have hx : x = e0 := ht
    subst hx
    have hx0 := readS_err hr
    have hx1 : (x == 0) = false := beq_eq_false_iff_ne.2 hx0
    have hx2 : (x != 0) = true := by simpa using hx0
    obtain ⟨W', hW, B5, ho, F5⟩ := ERR.out w2 x p HBZ.out hc (Nat.le_refl _) HF2.out hx0 (genRead_err hr)
    have z0 := HBZ.out.cell 0
    have z1 := HBZ.out.cell 1
    have z2 := HBZ.out.cell 2
    have f0 := HBZ.out.frozen 0
    have f1 := HBZ.out.frozen 1
    have f2 := HBZ.out.frozen 2
    subst hW
    have n0 := B5.cell 0
    have n1 := B5.cell 1
    have n2 := B5.cell 2
    simp only [List.getElem?_toArray, List.getElem?_cons_succ, List.getElem?_cons_zero] at z0 z1 z2 n0 n1 n2
    have HO := Lib.hid (And.intro ho F5)
    clear hr hc hx0 B5 ho F5 HT HC2
    go_wp2_with fail
    exact bodyPost_ret (v := .tuple #[.agg #[.int .i64 0, .slice none 0 0, .slice none 0 0], .int .i64 x]) (by simp [results, Tryz.results72, go_sem, n0, n1, n2]) rfl HO.out
  | ok tnk =>
    obtain ⟨t, n', k⟩ := tnk
    have ht := HT.out
    have hc := HC2.out
    rw [hr] at ht hc
    obtain ⟨rfl, rfl, rfl⟩ : ⟨tc, tn, tm⟩ = t ∧ n = n' ∧ x = 0 := ht
    replace hc : CurAt w2 c (fun k => K k ∨ w.heap.size ≤ k) bs (p + k) := hc
    have hkl := readS_le hr
    rw [List.length_drop] at hkl
    have HC2 := Lib.hid hc
    have HR := Lib.hid hr
    have hn16 := hkl.2
    have hk1 := hkl.1
    clear hc HT hr hkl
    obtain ⟨mk, hmk⟩ : ∃ mk, mk = madeG tn := ⟨_, rfl⟩
    have HMK := Lib.hid hmk
    have HMD := Lib.hid (fun w => made_any tn w)
    rw [← hmk] at HMD
    clear hmk
    have e0 := HBY.out.cell 0
    have e1 := HBY.out.cell 1
    have e2 := HBY.out.cell 2
    simp only [List.getElem?_toArray, List.getElem?_cons_succ, List.getElem?_cons_zero] at e0 e1 e2
    by_cases hbad : tc ≠ 2 ∨ 8 < tn ∨ tm ≠ mk
    · have hbad2 : tc ≠ 2 ∨ 8 < tn ∨ tm ≠ madeG tn := by rw [← HMK.out]; exact hbad
      have herr := genRead_tag HR.out hbad2
      have HERR := Lib.hid herr
      have hthree : ((tc == 2) = false ∧ (tc != 2) = true) ∨ (tc = 2 ∧ (8 : Int) < tn) ∨ (tc = 2 ∧ ¬ (8 : Int) < tn ∧ tm ≠ mk) := by
        by_cases h2 : tc = 2
        · by_cases h8 : 8 < tn
          · exact .inr (.inl ⟨h2, h8⟩)
          · exact .inr (.inr ⟨h2, h8, by rcases hbad with h | h | h; exact absurd h2 h; exact absurd h h8; exact h⟩)
        · exact .inl ⟨beq_eq_false_iff_ne.2 h2, by simpa using h2⟩
      clear herr hbad hbad2
      rcases hthree with ⟨h1, h2⟩ | ⟨rfl, h2⟩ | ⟨rfl, h2, h3⟩
      case' inr.inr =>
        have h4 : (tm == mk) = false := by cases tm <;> cases mk <;> simp_all
        have h5 : (tm != mk) = true := by cases tm <;> cases mk <;> simp_all
      all_goals
        go_upto_region 4 with fail
        go_quiet ((go_at_call 120; exact Calls.quiet_of_same ((HMD.out _).mono (fun _ _ ⟨h1, h2⟩ => ⟨h1, h2.symm⟩))))
        have FQ : Fr (fun _ => False) w2 (w2.drewN nq) := (Fr.refl w2).drewN nq
        obtain ⟨W', hW, B5, ho, F5⟩ := ERR.out (w2.drewN nq) 4 (p + k) (HBZ.out.fr FQ (fun h => h)) (HC2.out.old FQ) (Nat.le_add_right _ _) (HF2.out.trans (FQ.mono (fun _ _ h => h.elim))) (by decide) HERR.out
        have BQ := HBZ.out.fr FQ (fun h => h)
        have z0 := BQ.cell 0
        have z1 := BQ.cell 1
        have z2 := BQ.cell 2
        have f0 := BQ.frozen 0
        have f1 := BQ.frozen 1
        have f2 := BQ.frozen 2
        subst hW
        have n0 := B5.cell 0
        have n1 := B5.cell 1
        have n2 := B5.cell 2
        simp only [List.getElem?_toArray, List.getElem?_cons_succ, List.getElem?_cons_zero] at z0 z1 z2 n0 n1 n2
        have HO := Lib.hid (And.intro ho F5)
        clear B5 ho F5 BQ FQ
        go_wp2_with fail
        exact bodyPost_ret (v := .tuple #[.agg #[.int .i64 0, .slice none 0 0, .slice none 0 0], .int .i64 4]) (by simp [results, Tryz.results72, go_sem, n0, n1, n2]) rfl HO.out
    · obtain ⟨rfl, h8, rfl⟩ : tc = 2 ∧ ¬ (8 : Int) < tn ∧ tm = mk := ⟨Classical.byContradiction fun h => hbad (.inl h), fun h => hbad (.inr (.inl h)), Classical.byContradiction fun h => hbad (.inr (.inr h))⟩
      have hgood : ¬ ((2 : Int) ≠ 2 ∨ 8 < tn ∨ tm ≠ madeG tn) := by
        rintro (h | h | h)
        · exact h rfl
        · exact h8 h
        · exact h HMK.out
      have HGD := Lib.hid hgood
      have h4 : (tm == tm) = true := by cases tm <;> rfl
      have h5 : (tm != tm) = false := by cases tm <;> rfl
      clear hbad hgood
      go_upto_region 4 with fail
      go_quiet ((go_at_call 120; exact Calls.quiet_of_same ((HMD.out _).mono (fun _ _ ⟨h1, h2⟩ => ⟨h1, h2.symm⟩))))
      have FQ : Fr (fun _ => False) w2 (w2.drewN nq) := (Fr.refl w2).drewN nq
      have HBZ2 := Lib.hid (HBZ.out.fr FQ (fun h => h))
      have HBY2 := Lib.hid (HBY.out.fr FQ (fun h => h))
      have HC3 := Lib.hid (HC2.out.old FQ)
      have HF3 := Lib.hid (HF2.out.trans (FQ.mono (T := fun k => k = c) (fun _ _ h => h.elim)))
      have hs3 := FQ.size
      clear FQ HBZ HBY HC2 HF2 e0 e1 e2
      generalize w2.drewN nq = w3 at *
      by_cases hn : n ≤ bs.length - (p + k)
      · have HTK := Lib.hid (take_ok HC3.out n hn)
        obtain ⟨l, hl⟩ : ∃ l, l = (bs.drop (p + k)).take n := ⟨_, rfl⟩
        have hll : l.length = n := by rw [hl, List.length_take, List.length_drop]; omega
        have hl2 : ((bs.drop p).drop k).take n = l := by rw [hl, List.drop_drop]
        rw [← hl] at HTK
        have hend : ¬ (bs.drop p).length - k < n := by rw [List.length_drop]; omega
        have HEND := Lib.hid hend
        have HL2 := Lib.hid hl2
        have HLL := Lib.hid hll
        clear hl hl2 hll hend
        go_wp2_with fail
        refine HTK.out.mono ?_
        rintro e w4 ⟨v, rfl, ho, C4, F4⟩
        have hvl := (Vals.of_own ho).2
        have hkb : Kept (fun W => Bytes W v l) (fun k => k < w3.heap.size) w4 := own_kept ho _ (fun k hk => hk)
        obtain ⟨av, m, cv, rfl, hmn⟩ := own_shape ho
        have hmn2 : n = m := by omega
        subst hmn2
        clear hmn
        have HKB := Lib.hid hkb
        have HVL := Lib.hid hvl
        have hb4 := (Vals.of_own ho).1
        have hs4 := F4.size
        have BZ4 := HBZ2.out.fr F4 hzc
        have BY4 := HBY2.out.fr F4 hyc
        obtain ⟨x8, hx8⟩ : ∃ x8, x8 = w4.heap.size := ⟨_, rfl⟩
        have F5 : Fr (fun _ => False) w4 (w4.alloc (.cells #[.int .i64 tn, .slice av n cv, .slice none 0 0] 42)) := (Fr.refl w4).alloc _
        have HBX := Lib.hid (Blk.new w4 42 #[.int .i64 tn, .slice av n cv, .slice none 0 0])
        rw [← hx8] at HBX
        have hxz : z ≠ x8 := by have := BZ4.lt; omega
        have hxc : x8 ≠ c := by have := C4.lt; omega
        have hxw : w.heap.size ≤ x8 := by omega
        have HBZ5 := Lib.hid (BZ4.fr F5 (fun h => h))
        have HC5 := Lib.hid (C4.old F5)
        have HF5 := Lib.hid ((HF3.out.trans F4).trans (F5.mono (T := fun k => k = c) (fun _ _ h => h.elim)))
        have HKB5 := Lib.hid (HKB.out.old F5)
        have HB5 := Lib.hid (hb4.old F5)
        have hz3 : z < w3.heap.size := HBZ2.out.lt
        have e1 := BY4.cell 1
        simp only [List.getElem?_toArray, List.getElem?_cons_succ, List.getElem?_cons_zero] at e1
        have hs5 := F5.size
        clear ho C4 F4 F5 BZ4 BY4 hkb hvl hb4 HTK HC3 HF3 HBZ2 HBY2 HKB
        go_upto_region 10 with fail
        rw [← hx8]
        have HX8 := Lib.hid hx8
        clear hx8 e1
        generalize (w4.alloc (.cells #[.int .i64 tn, .slice av n cv, .slice none 0 0] 42)) = w5 at *
        by_cases h4n : tn = 4
        · subst h4n
          have HGR := Lib.hid (genRead_dir HR.out HGD.out HEND.out rfl)
          rw [HL2.out] at HGR
          have x0 := HBX.out.cell 0
          have x1 := HBX.out.cell 1
          have g1 := HBX.out.frozen 1
          simp only [List.getElem?_toArray, List.getElem?_cons_succ, List.getElem?_cons_zero] at x0 x1
          have B6 : Blk (w5.setCell ⟨x8, 1, none⟩ (.slice none 0 0)) x8 42 #[.int .i64 4, .slice none 0 0, .slice none 0 0] := by
            have := HBX.out.set 1 (.slice none 0 0)
            simpa using this
          have F6 : Fr (fun k => k = x8) w5 (w5.setCell ⟨x8, 1, none⟩ (.slice none 0 0)) := Fr.setCell (S := fun k => k = x8) (p := ⟨x8, 1, none⟩) (Fr.refl w5) (fun _ => rfl) _
          have HB6 := Lib.hid B6
          have HBZ6 := Lib.hid (HBZ5.out.fr F6 hxz)
          have HC6 := Lib.hid (HC5.out.step (K' := fun k => K k ∨ w.heap.size ≤ k) F6 (fun k _ e => .inr (by omega)) (fun _ h => .inl h))
          have HF6 := Lib.hid (HF5.out.trans' F6 (fun i hi e => absurd hi (by omega)))
          have hs6 := F6.size
          have HXL := Lib.hid (show x8 < (w5.setCell ⟨x8, 1, none⟩ (.slice none 0 0)).heap.size from B6.lt)
          have hb6 := HB5.out.fr F6 (fun _ k hk e => by have := HVL.out k hk; have := HX8.out; omega)
          have HPA := Lib.hid (nameParse_any _ l _ hb6 (by have := HLL.out; omega))
          clear B6 F6 HC5 HF5 HBZ5 HBX hb6 HB5 HKB5
          go_wp2_with fail
          refine HPA.out.mono ?_
          rintro e w7 ⟨hout, F7⟩
          have hs7 := F7.size
          have HB7 := HB6.out.fr F7 (fun h => h)
          have HBZ7 := Lib.hid (HBZ6.out.fr F7 (fun h => h))
          have HC7 := Lib.hid (HC6.out.old F7)
          have HF7 := Lib.hid (HF6.out.trans (F7.mono (T := fun k => k = c) (fun _ _ h => h.elim)))
          clear F7 HPA HB6 HBZ6 HC6 HF6 x0 x1 g1
          unfold nameParseOut at hout
          cases hq : nameParseS l with
          | error x =>
            rw [hq] at hout HGR
            obtain ⟨rfl, hx⟩ := hout
            have hx1 : (x == 0) = false := beq_eq_false_iff_ne.2 hx
            have hx2 : (x != 0) = true := by simpa using hx
            have B8 : Blk (w7.setCell ⟨x8, 2, none⟩ (.slice none 0 0)) x8 42 #[.int .i64 4, .slice none 0 0, .slice none 0 0] := by
              have := HB7.set 2 (.slice none 0 0)
              simpa using this
            have F8 : Fr (fun k => k = x8) w7 (w7.setCell ⟨x8, 2, none⟩ (.slice none 0 0)) := Fr.setCell (S := fun k => k = x8) (p := ⟨x8, 2, none⟩) (Fr.refl w7) (fun _ => rfl) _
            have HBZ8 := Lib.hid (HBZ7.out.fr F8 hxz)
            have HC8 := Lib.hid (HC7.out.step (K' := fun k => K k ∨ w.heap.size ≤ k) F8 (fun k _ e => .inr (by omega)) (fun _ h => .inl h))
            have HF8 := Lib.hid (HF7.out.trans' F8 (fun i hi e => absurd hi (by omega)))
            have x2 := HB7.cell 2
            have g2 := HB7.frozen 2
            simp only [List.getElem?_toArray, List.getElem?_cons_succ, List.getElem?_cons_zero] at x2
            have HX := Lib.hid hx
            clear B8 F8 HB7 HBZ7 HC7 HF7 hq hx
            go_upto_region 13 with fail
            generalize (w7.setCell ⟨x8, 2, none⟩ (.slice none 0 0)) = w8 at *
            obtain ⟨W', hW, B5, ho, F5⟩ := ERR.out w8 x (p + k + n) HBZ8.out HC8.out (by omega) HF8.out HX.out HGR.out
            have z0 := HBZ8.out.cell 0
            have z1 := HBZ8.out.cell 1
            have z2 := HBZ8.out.cell 2
            have f0 := HBZ8.out.frozen 0
            have f1 := HBZ8.out.frozen 1
            have f2 := HBZ8.out.frozen 2
            subst hW
            have n0 := B5.cell 0
            have n1 := B5.cell 1
            have n2 := B5.cell 2
            simp only [List.getElem?_toArray, List.getElem?_cons_succ, List.getElem?_cons_zero] at z0 z1 z2 n0 n1 n2
            have HO := Lib.hid (And.intro ho F5)
            clear B5 ho F5 x2 g2
            go_wp2_with fail
            exact bodyPost_ret (v := .tuple #[.agg #[.int .i64 0, .slice none 0 0, .slice none 0 0], .int .i64 x]) (by simp [results, Tryz.results72, go_sem, n0, n1, n2]) rfl HO.out
          | ok nm =>
            rw [hq] at hout HGR
            obtain ⟨am, cm, rfl, hkn⟩ := hout
            obtain ⟨hok, hfew⟩ := nameParse_few hq (by have := HLL.out; omega)
            have B8 : Blk (w7.setCell ⟨x8, 2, none⟩ (.slice am nm.length cm)) x8 42 #[.int .i64 4, .slice none 0 0, .slice am nm.length cm] := by
              have := HB7.set 2 (.slice am nm.length cm)
              simpa using this
            have F8 : Fr (fun k => k = x8) w7 (w7.setCell ⟨x8, 2, none⟩ (.slice am nm.length cm)) := Fr.setCell (S := fun k => k = x8) (p := ⟨x8, 2, none⟩) (Fr.refl w7) (fun _ => rfl) _
            have HBZ8 := Lib.hid (HBZ7.out.fr F8 hxz)
            have HB8 := Lib.hid B8
            have HC8 := Lib.hid (HC7.out.step (K' := fun k => K k ∨ w.heap.size ≤ k) F8 (fun k _ e => .inr (by omega)) (fun _ h => .inl h))
            have HF8 := Lib.hid (HF7.out.trans' F8 (fun i hi e => absurd hi (by omega)))
            have hx6 := HX8.out
            have HK8 := Lib.hid (hkn.step (K' := fun k => k < w3.heap.size) F8 (fun k _ e => by rw [e]; exact HXL.out) (fun k hk => .inl (by omega)))
            have HGT := Lib.hid (genRight_any (.agg #[.int .i64 4, .slice none 0 0, .slice am nm.length cm]) ⟨4, [], nm⟩ _ ⟨_, _, rfl, Vals.nil _, HK8.out.now⟩ ⟨by simp, hfew⟩)
            have hgok : genOk ⟨4, [], nm⟩ = true := by simp [genOk, hok]
            rw [hgok] at HGT
            have x2 := HB7.cell 2
            have g2 := HB7.frozen 2
            simp only [List.getElem?_toArray, List.getElem?_cons_succ, List.getElem?_cons_zero] at x2
            clear B8 F8 HB7 HBZ7 HC7 HF7 hq hkn hok hfew hgok hx6
            go_upto_region 13 with fail
            generalize (w7.setCell ⟨x8, 2, none⟩ (.slice am nm.length cm)) = w8 at *
            have y0 := HB8.out.cell 0
            have y1 := HB8.out.cell 1
            have y2 := HB8.out.cell 2
            simp only [List.getElem?_toArray, List.getElem?_cons_succ, List.getElem?_cons_zero] at y0 y1 y2
            clear x2 g2
            go_wp2_with fail
            refine HGT.out.mono ?_
            rintro e w9 ⟨rfl, F9⟩
            have BX9 := HB8.out.fr F9 (fun h => h)
            have BZ9 := HBZ8.out.fr F9 (fun h => h)
            clear y0 y1 y2
            have y0 := BX9.cell 0
            have y1 := BX9.cell 1
            have y2 := BX9.cell 2
            have z0 := BZ9.cell 0
            have z1 := BZ9.cell 1
            have z2 := BZ9.cell 2
            have f0 := BZ9.frozen 0
            have f1 := BZ9.frozen 1
            have f2 := BZ9.frozen 2
            obtain ⟨B5, F5⟩ := set3 BZ9 (.int .i64 4) (.slice none 0 0) (.slice am nm.length cm)
            have n0 := B5.cell 0
            have n1 := B5.cell 1
            have n2 := B5.cell 2
            simp only [List.getElem?_toArray, List.getElem?_cons_succ, List.getElem?_cons_zero] at y0 y1 y2 z0 z1 z2 n0 n1 n2
            have HF5 := Lib.hid ((HF8.out.trans (F9.mono (T := fun k => k = c) (fun _ _ h => h.elim))).trans' F5 (fun i hi e => by have := HZ.out; omega))
            have HC5 := Lib.hid (EK.out _ _ ((HC8.out.old F9).step (K' := fun k => K k ∨ w.heap.size ≤ k) F5 (fun k _ e => .inr (by have := HZ.out; omega)) (fun _ h => .inl h)))
            have HK5 := Lib.hid ((HK8.out.old F9).step (K' := fun k => k < w.heap.size) F5 (fun k _ e => by omega) (fun k hk => .inl (by omega)))
            clear B5 F5 BZ9 BX9 F9 HGT HK8 HC8 HF8
            go_wp2_with fail
            refine bodyPost_ret (v := .tuple #[.agg #[.int .i64 4, .slice none 0 0, .slice am nm.length cm], .int .i64 0]) (by simp [results, Tryz.results72, go_sem, n0, n1, n2]) rfl ⟨?_, HF5.out⟩
            rw [HGR.out]
            exact ⟨none, 0, am, cm, rfl, fun W f => ⟨Vals.nil W, HK5.out W f⟩, by rw [show p + (k + n) = p + k + n by omega]; exact HC5.out⟩
        · have k4 : (tn == 4) = false := beq_eq_false_iff_ne.2 h4n
          have HGR := genRead_on HR.out HGD.out HEND.out h4n
          rw [HL2.out] at HGR
          have hgo : genOk ⟨tn, l, []⟩ = contB tn l := by unfold genOk; rw [if_neg h4n]; simp
          have HGT := Lib.hid (genRight_any (.agg #[.int .i64 tn, .slice av n cv, .slice none 0 0]) ⟨tn, l, []⟩ _ ⟨_, _, rfl, HB5.out, (name_nil (fun _ => True) _).now⟩ ⟨by have := HLL.out; show l.length ≤ _; omega, by simp⟩)
          rw [hgo] at HGT
          have HGRR := Lib.hid HGR
          have x0 := HBX.out.cell 0
          have x1 := HBX.out.cell 1
          have x2 := HBX.out.cell 2
          simp only [List.getElem?_toArray, List.getElem?_cons_succ, List.getElem?_cons_zero] at x0 x1 x2
          clear HGR hgo h4n
          obtain ⟨cb, hcb⟩ : ∃ cb, cb = contB tn l := ⟨_, rfl⟩
          rw [← hcb] at HGT HGRR
          clear hcb
          go_wp2_with fail
          refine HGT.out.mono ?_
          rintro e w9 ⟨rfl, F9⟩
          have BX9 := HBX.out.fr F9 (fun h => h)
          have BZ9 := HBZ5.out.fr F9 (fun h => h)
          have HC9 := Lib.hid (HC5.out.old F9)
          have HF9 := Lib.hid (HF5.out.trans (F9.mono (T := fun k => k = c) (fun _ _ h => h.elim)))
          have HK9 := Lib.hid (HKB5.out.old F9)
          clear x0 x1 x2 F9 HC5 HF5 HKB5 HB5 HGT
          have z0 := BZ9.cell 0
          have z1 := BZ9.cell 1
          have z2 := BZ9.cell 2
          have f0 := BZ9.frozen 0
          have f1 := BZ9.frozen 1
          have f2 := BZ9.frozen 2
          simp only [List.getElem?_toArray, List.getElem?_cons_succ, List.getElem?_cons_zero] at z0 z1 z2
          cases cb with
          | false =>
            obtain ⟨W', hW, B5, ho, F5⟩ := ERR.out w9 6 (p + k + n) BZ9 HC9.out (by omega) HF9.out (by decide) (HGRR.out.trans (if_neg Bool.false_ne_true))
            subst hW
            have n0 := B5.cell 0
            have n1 := B5.cell 1
            have n2 := B5.cell 2
            simp only [List.getElem?_toArray, List.getElem?_cons_succ, List.getElem?_cons_zero] at n0 n1 n2
            have HO := Lib.hid (And.intro ho F5)
            clear B5 ho F5 BX9 BZ9
            go_wp2_with fail
            exact bodyPost_ret (v := .tuple #[.agg #[.int .i64 0, .slice none 0 0, .slice none 0 0], .int .i64 6]) (by simp [results, Tryz.results72, go_sem, n0, n1, n2]) rfl HO.out
          | true =>
            have HGE := Lib.hid (HGRR.out.trans (if_pos rfl))
            have y0 := BX9.cell 0
            have y1 := BX9.cell 1
            have y2 := BX9.cell 2
            obtain ⟨B5, F5⟩ := set3 BZ9 (.int .i64 tn) (.slice av n cv) (.slice none 0 0)
            have n0 := B5.cell 0
            have n1 := B5.cell 1
            have n2 := B5.cell 2
            simp only [List.getElem?_toArray, List.getElem?_cons_succ, List.getElem?_cons_zero] at y0 y1 y2 n0 n1 n2
            have HF5 := Lib.hid (HF9.out.trans' F5 (fun i hi e => by have := HZ.out; omega))
            have HC5 := Lib.hid (EK.out _ _ (HC9.out.step (K' := fun k => K k ∨ w.heap.size ≤ k) F5 (fun k _ e => .inr (by have := HZ.out; omega)) (fun _ h => .inl h)))
            have HK5 := Lib.hid (HK9.out.step (K' := fun k => k < w.heap.size) F5 (fun k _ e => by omega) (fun k hk => .inl (by omega)))
            clear B5 F5 BZ9 BX9 HK9 HC9 HF9 HGRR
            go_wp2_with fail
            refine bodyPost_ret (v := .tuple #[.agg #[.int .i64 tn, .slice av n cv, .slice none 0 0], .int .i64 0]) (by simp [results, Tryz.results72, go_sem, n0, n1, n2]) rfl ⟨?_, HF5.out⟩
            rw [HGE.out]
            refine ⟨av, cv, none, 0, by rw [HLL.out]; rfl, fun W f => ⟨by rw [HLL.out]; exact HK5.out W f, (name_nil (fun _ => True) W).now⟩, by rw [show p + (k + n) = p + k + n by omega]; exact HC5.out⟩
      · have hend : (bs.drop p).length - k < n := by rw [List.length_drop]; omega
        have HGR := Lib.hid (genRead_end HR.out HGD.out hend)
        have HTK := Lib.hid (take_end HC3.out n (by omega))
        clear hend hn
        go_wp2_with fail
        refine HTK.out.mono ?_
        rintro e w4 ⟨rfl, F4⟩
        obtain ⟨W', hW, B5, ho, F5⟩ := ERR.out w4 3 (p + k) (HBZ2.out.fr F4 (fun h => h)) (HC3.out.old F4) (by omega) (HF3.out.trans (F4.mono (fun _ _ h => h.elim))) (by decide) HGR.out
        have BQ := HBZ2.out.fr F4 (fun h => h)
        have z0 := BQ.cell 0
        have z1 := BQ.cell 1
        have z2 := BQ.cell 2
        have f0 := BQ.frozen 0
        have f1 := BQ.frozen 1
        have f2 := BQ.frozen 2
        subst hW
        have n0 := B5.cell 0
        have n1 := B5.cell 1
        have n2 := B5.cell 2
        simp only [List.getElem?_toArray, List.getElem?_cons_succ, List.getElem?_cons_zero] at z0 z1 z2 n0 n1 n2
        have HO := Lib.hid (And.intro ho F5)
        clear B5 ho F5 BQ F4 HTK
        go_wp2_with fail
        exact bodyPost_ret (v := .tuple #[.agg #[.int .i64 0, .slice none 0 0, .slice none 0 0], .int .i64 3]) (by simp [results, Tryz.results72, go_sem, n0, n1, n2]) rfl HO.out
end Go.Proofs.YtacekpdjapgfcaaGreatDoor

namespace Go.Proofs.YtacekpdjapgfcaaGreatDoor
open Go Go.RowKit Go.Q
set_option linter.unusedSimpArgs false
def rGenOut (K : Nat → Prop) (w' : World) (p : Nat) (r : Except Int (Gen × Nat)) (e : Ending) : Prop :=
  match r with
  | .error x => e = .returned (.tuple #[.agg #[.int .i64 0, .slice none 0 0, .slice none 0 0], .int .i64 p, .int .i64 x])
  | .ok (g, k) => ∃ ab cb an cn, e = .returned (.tuple #[.agg #[.int .i64 g.k, .slice ab g.b.length cb, .slice an g.n.length cn], .int .i64 ((p + k : Nat) : Int), .int .i64 0]) ∧ Kept (fun W => Bytes W (.slice ab g.b.length cb) g.b ∧ NameAt W (.slice an g.n.length cn) g.n) K w'
end Go.Proofs.YtacekpdjapgfcaaGreatDoor

namespace Go.Proofs.YtacekpdjapgfcaaGreatDoor
open Go Go.RowKit Go.Q
set_option linter.unusedSimpArgs false
def genReadOut (w w' : World) (c : Nat) (K : Nat → Prop) (bs : List UInt8) (p : Nat) (r : Except Int (Gen × Nat)) (e : Ending) : Prop :=
  match r with
  | .ok (g, m) => ∃ ab cb an cn, e = .returned (.tuple #[.agg #[.int .i64 g.k, .slice ab g.b.length cb, .slice an g.n.length cn], .int .i64 0]) ∧ Kept (fun W => Bytes W (.slice ab g.b.length cb) g.b ∧ NameAt W (.slice an g.n.length cn) g.n) (fun k => k < w.heap.size) w' ∧ CurAt w' c K bs (p + m)
  | .error x => e = .returned (.tuple #[.agg #[.int .i64 0, .slice none 0 0, .slice none 0 0], .int .i64 x]) ∧ x ≠ 0 ∧ CurAt w' c K bs p
set_option maxRecDepth 20000 in
set_option maxHeartbeats 4000000 in
theorem keptGen_any {w : World} {c : Nat} {K : Nat → Prop} {bs : List UInt8} {p : Nat} (h : CurAt w c K bs p) (hbs : bs.length ≤ 10000000) :
    Calls Tryz.prog 71 #[pt c, .func (.func 72) #[] #[]] w fun e w' => genReadOut w w' c K bs p (genReadS (bs.drop p)) e ∧ Fr (fun k => k = c) w w' := by
  have hcl := h.lt
  obtain ⟨z, hz⟩ : ∃ z, z = w.heap.size := ⟨_, rfl⟩
  have F0 : Fr (fun _ => False) w (w.alloc (.cells #[.int .i64 0, .slice none 0 0, .slice none 0 0] 42)) := (Fr.refl w).alloc _
  have B0 := Blk.new w 42 #[.int .i64 0, .slice none 0 0, .slice none 0 0]
  have H := Lib.hid (h.step (K' := fun k => K k ∨ w.heap.size ≤ k) F0 (fun _ _ h => h.elim) (fun _ h => h))
  rw [← hz] at B0
  have hzc : z ≠ c := by omega
  have HZ := Lib.hid hz
  clear h hz
  go_enter Tryz.func71, Tryz.ntmps71
  go_upto_region 1 with fail
  rw [← HZ.out]
  generalize (w.alloc (.cells #[.int .i64 0, .slice none 0 0, .slice none 0 0] 42)) = w0 at *
  have HB0 := Lib.hid B0
  have hz0 := B0.lt
  have HF0 := Lib.hid (F0.mono (T := fun k => k = c) (fun _ _ h => h.elim))
  have hs0 := F0.size
  have HA := Lib.hid (at_any H.out)
  have HRD := Lib.hid (genR_any H.out hbs)
  clear F0 B0 H
  go_wp2_with fail
  refine HA.out.mono ?_
  rintro e w0' ⟨rfl, rfl⟩
  go_wp2_with fail
  refine HRD.out.mono ?_
  rintro e w1 ⟨hout, F1⟩
  have HF1 := Lib.hid (HF0.out.trans F1)
  have HB1 := Lib.hid (HB0.out.fr F1 hzc)
  have hs1 := F1.size
  have hlt1 := HB1.out.lt
  have EK : ∀ (W : World) (q : Nat), CurAt W c (fun k => K k ∨ w.heap.size ≤ k) bs q → CurAt W c K bs q := fun W q C => C.step (K' := K) (Fr.refl W) (S := fun _ => False) (fun _ _ h => h.elim) (fun k hk => .inl (.inl hk))
  have HEK := Lib.hid EK
  clear F1 HRD HF0 HB0 EK HA
  unfold genOut at hout
  cases hr : genReadS (bs.drop p) with
  | error x =>
    rw [hr] at hout
    obtain ⟨rfl, hx, q, hq, C1⟩ := hout
    have hx1 : (x == 0) = false := beq_eq_false_iff_ne.2 hx
    have hx2 : (x != 0) = true := by simpa using hx
    have HR := Lib.hid hr
    have HX := Lib.hid hx
    have F2 : Fr (fun _ => False) w1 ((w1.alloc (.cells #[.int .i64 0, .slice none 0 0, .slice none 0 0] 42)).alloc (.cells #[.int .i64 0, .slice none 0 0, .slice none 0 0] 42)) := ((Fr.refl w1).alloc _).alloc _
    have HB2 := Lib.hid (HB1.out.fr F2 (fun h => h))
    have HC2 := Lib.hid (C1.old F2)
    have HF2 := Lib.hid (HF1.out.trans (F2.mono (T := fun k => k = c) (fun _ _ h => h.elim)))
    obtain ⟨y, hy⟩ : ∃ y, y = w1.heap.size + 1 := ⟨_, rfl⟩
    have BY := Blk.new (w1.alloc (.cells #[.int .i64 0, .slice none 0 0, .slice none 0 0] 42)) 42 #[.int .i64 0, .slice none 0 0, .slice none 0 0]
    rw [World.size_alloc, ← hy] at BY
    have HBY := Lib.hid BY
    have hyz : y ≠ z := by omega
    have hyc : y ≠ c := by have := C1.lt; omega
    clear hr hx C1 F2 BY HB1 HF1
    go_upto_region 5 with fail
    try rw [World.size_alloc]
    rw [← hy]
    clear hy
    generalize ((w1.alloc (.cells #[.int .i64 0, .slice none 0 0, .slice none 0 0] 42)).alloc (.cells #[.int .i64 0, .slice none 0 0, .slice none 0 0] 42)) = w2 at *
    have HBK := Lib.hid (back_any HC2.out p hq)
    go_wp2_with fail
    refine HBK.out.mono ?_
    rintro e w3 ⟨rfl, C3, F3⟩
    have BZ := HB2.out.fr F3 hzc
    have BY := HBY.out.fr F3 hyc
    have z0 := BZ.cell 0
    have z1 := BZ.cell 1
    have z2 := BZ.cell 2
    have f0 := BZ.frozen 0
    have f1 := BZ.frozen 1
    have f2 := BZ.frozen 2
    have y0 := BY.cell 0
    have y1 := BY.cell 1
    have y2 := BY.cell 2
    obtain ⟨B5, F5⟩ := set3 BZ (.int .i64 0) (.slice none 0 0) (.slice none 0 0)
    have n0 := B5.cell 0
    have n1 := B5.cell 1
    have n2 := B5.cell 2
    simp only [List.getElem?_toArray, List.getElem?_cons_succ, List.getElem?_cons_zero] at z0 z1 z2 y0 y1 y2 n0 n1 n2
    have HC5 := Lib.hid (HEK.out _ _ (C3.step (K' := fun k => K k ∨ w.heap.size ≤ k) F5 (fun k _ e => .inr (by have := HZ.out; omega)) (fun _ h => .inl h)))
    have HF5 := Lib.hid ((HF2.out.trans F3).trans' F5 (fun i hi e => by have := HZ.out; omega))
    clear C3 F3 BZ BY B5 F5 HBK HC2 HB2 HBY
    go_wp2_with fail
    refine bodyPost_ret (v := .tuple #[.agg #[.int .i64 0, .slice none 0 0, .slice none 0 0], .int .i64 x]) (by simp [results, Tryz.results71, go_sem, n0, n1, n2]) rfl ⟨?_, HF5.out⟩
    rw [HR.out]
    exact ⟨rfl, HX.out, HC5.out⟩
  | ok gm =>
    obtain ⟨g, m⟩ := gm
    rw [hr] at hout
    obtain ⟨ab, cb, an, cn, rfl, hk, C1⟩ := hout
    have HR := Lib.hid hr
    have F2 : Fr (fun _ => False) w1 (w1.alloc (.cells #[.int .i64 g.k, .slice ab g.b.length cb, .slice an g.n.length cn] 42)) := (Fr.refl w1).alloc _
    have HB2 := Lib.hid (HB1.out.fr F2 (fun h => h))
    have HC2 := Lib.hid (C1.old F2)
    have HF2 := Lib.hid (HF1.out.trans (F2.mono (T := fun k => k = c) (fun _ _ h => h.elim)))
    have HK2 := Lib.hid (hk.old F2)
    obtain ⟨y, hy⟩ : ∃ y, y = w1.heap.size := ⟨_, rfl⟩
    have BY := Blk.new w1 42 #[.int .i64 g.k, .slice ab g.b.length cb, .slice an g.n.length cn]
    rw [← hy] at BY
    have HBY := Lib.hid BY
    clear hr hk C1 F2 BY HB1 HF1
    go_upto_region 3 with fail
    rw [← hy]
    clear hy
    generalize (w1.alloc (.cells #[.int .i64 g.k, .slice ab g.b.length cb, .slice an g.n.length cn] 42)) = w2 at *
    have BZ := HB2.out
    have BY := HBY.out
    have z0 := BZ.cell 0
    have z1 := BZ.cell 1
    have z2 := BZ.cell 2
    have f0 := BZ.frozen 0
    have f1 := BZ.frozen 1
    have f2 := BZ.frozen 2
    have y0 := BY.cell 0
    have y1 := BY.cell 1
    have y2 := BY.cell 2
    obtain ⟨B5, F5⟩ := set3 BZ (.int .i64 g.k) (.slice ab g.b.length cb) (.slice an g.n.length cn)
    have n0 := B5.cell 0
    have n1 := B5.cell 1
    have n2 := B5.cell 2
    simp only [List.getElem?_toArray, List.getElem?_cons_succ, List.getElem?_cons_zero] at z0 z1 z2 y0 y1 y2 n0 n1 n2
    have HC5 := Lib.hid (HEK.out _ _ (HC2.out.step (K' := fun k => K k ∨ w.heap.size ≤ k) F5 (fun k _ e => .inr (by have := HZ.out; omega)) (fun _ h => .inl h)))
    have HF5 := Lib.hid (HF2.out.trans' F5 (fun i hi e => by have := HZ.out; omega))
    have HK5 := Lib.hid (HK2.out.step (K' := fun k => k < w.heap.size) F5 (fun k _ e => by omega) (fun k hk => .inl (by omega)))
    clear BZ BY B5 F5 HC2 HB2 HBY HK2
    go_wp2_with fail
    refine bodyPost_ret (v := .tuple #[.agg #[.int .i64 g.k, .slice ab g.b.length cb, .slice an g.n.length cn], .int .i64 0]) (by simp [results, Tryz.results71, go_sem, n0, n1, n2]) rfl ⟨?_, HF5.out⟩
    rw [HR.out]
    exact ⟨ab, cb, an, cn, rfl, HK5.out, HC5.out⟩
set_option maxRecDepth 20000 in
set_option maxHeartbeats 2000000 in
theorem genRead_any {w : World} {c : Nat} {K : Nat → Prop} {bs : List UInt8} {p : Nat} (h : CurAt w c K bs p) (hbs : bs.length ≤ 10000000) :
    Calls Tryz.prog 19 #[pt c] w fun e w' => genReadOut w w' c K bs p (genReadS (bs.drop p)) e ∧ Fr (fun k => k = c) w w' := by
  have hcl := h.lt
  obtain ⟨z, hz⟩ : ∃ z, z = w.heap.size := ⟨_, rfl⟩
  have F0 : Fr (fun _ => False) w (w.alloc (.cells #[.int .i64 0, .slice none 0 0, .slice none 0 0] 42)) := (Fr.refl w).alloc _
  have B0 := Blk.new w 42 #[.int .i64 0, .slice none 0 0, .slice none 0 0]
  have H := Lib.hid (h.step (K' := fun k => K k ∨ w.heap.size ≤ k) F0 (fun _ _ h => h.elim) (fun _ h => h))
  rw [← hz] at B0
  have hzc : z ≠ c := by omega
  have HZ := Lib.hid hz
  clear h hz
  go_enter Tryz.func19, Tryz.ntmps19
  go_upto_region 1 with fail
  rw [← HZ.out]
  generalize (w.alloc (.cells #[.int .i64 0, .slice none 0 0, .slice none 0 0] 42)) = w0 at *
  have HB0 := Lib.hid B0
  have hz0 := B0.lt
  have hs0 := F0.size
  have HF0 := Lib.hid (F0.mono (T := fun k => k = c) (fun _ _ h => h.elim))
  have HRD := Lib.hid (keptGen_any H.out hbs)
  clear F0 B0 H
  go_wp2_with fail
  refine HRD.out.mono ?_
  rintro e w1 ⟨hout, F1⟩
  have HF1 := Lib.hid (HF0.out.trans F1)
  have BZ := HB0.out.fr F1 hzc
  have EK : ∀ (W : World) (q : Nat), CurAt W c (fun k => K k ∨ w.heap.size ≤ k) bs q → CurAt W c K bs q := fun W q C => C.step (K' := K) (Fr.refl W) (S := fun _ => False) (fun _ _ h => h.elim) (fun k hk => .inl (.inl hk))
  have HEK := Lib.hid EK
  have z0 := BZ.cell 0
  have z1 := BZ.cell 1
  have z2 := BZ.cell 2
  have f0 := BZ.frozen 0
  have f1 := BZ.frozen 1
  have f2 := BZ.frozen 2
  clear F1 HRD HF0 HB0 EK
  unfold genReadOut at hout
  cases hr : genReadS (bs.drop p) with
  | error x =>
    rw [hr] at hout
    obtain ⟨rfl, hx, C1⟩ := hout
    have HR := Lib.hid hr
    have HX := Lib.hid hx
    obtain ⟨B5, F5⟩ := set3 BZ (.int .i64 0) (.slice none 0 0) (.slice none 0 0)
    have n0 := B5.cell 0
    have n1 := B5.cell 1
    have n2 := B5.cell 2
    simp only [List.getElem?_toArray, List.getElem?_cons_succ, List.getElem?_cons_zero] at z0 z1 z2 n0 n1 n2
    have HC5 := Lib.hid (HEK.out _ _ (C1.step (K' := fun k => K k ∨ w.heap.size ≤ k) F5 (fun k _ e => .inr (by have := HZ.out; omega)) (fun _ h => .inl h)))
    have HF5 := Lib.hid (HF1.out.trans' F5 (fun i hi e => by have := HZ.out; omega))
    clear hr hx C1 BZ B5 F5
    go_wp2_with fail
    refine bodyPost_ret (v := .tuple #[.agg #[.int .i64 0, .slice none 0 0, .slice none 0 0], .int .i64 x]) (by simp [results, Tryz.results19, go_sem, n0, n1, n2]) rfl ⟨?_, HF5.out⟩
    rw [HR.out]
    exact ⟨rfl, HX.out, HC5.out⟩
  | ok gm =>
    obtain ⟨g, m⟩ := gm
    rw [hr] at hout
    obtain ⟨ab, cb, an, cn, rfl, hk, C1⟩ := hout
    have HR := Lib.hid hr
    obtain ⟨B5, F5⟩ := set3 BZ (.int .i64 g.k) (.slice ab g.b.length cb) (.slice an g.n.length cn)
    have n0 := B5.cell 0
    have n1 := B5.cell 1
    have n2 := B5.cell 2
    simp only [List.getElem?_toArray, List.getElem?_cons_succ, List.getElem?_cons_zero] at z0 z1 z2 n0 n1 n2
    have HC5 := Lib.hid (HEK.out _ _ (C1.step (K' := fun k => K k ∨ w.heap.size ≤ k) F5 (fun k _ e => .inr (by have := HZ.out; omega)) (fun _ h => .inl h)))
    have HF5 := Lib.hid (HF1.out.trans' F5 (fun i hi e => by have := HZ.out; omega))
    have HK5 := Lib.hid (hk.step (K' := fun k => k < w.heap.size) F5 (fun k _ e => by omega) (fun k hk => .inl (by omega)))
    clear hr hk C1 BZ B5 F5
    go_wp2_with fail
    refine bodyPost_ret (v := .tuple #[.agg #[.int .i64 g.k, .slice ab g.b.length cb, .slice an g.n.length cn], .int .i64 0]) (by simp [results, Tryz.results19, go_sem, n0, n1, n2]) rfl ⟨?_, HF5.out⟩
    rw [HR.out]
    exact ⟨ab, cb, an, cn, rfl, HK5.out, HC5.out⟩
theorem info42 : (Tryz.prog.info? 42).map (fun i => (i.zero, i.size, i.bytes)) = some (some (.agg #[.int .i64 0, .slice none 0 0, .slice none 0 0]), 3, 56) := by kernel_rfl
def gensOut (w w' : World) (c : Nat) (K : Nat → Prop) (bs : List UInt8) (p : Nat) (r : Except Int (List Gen × Nat)) (e : Ending) : Prop :=
  match r with
  | .ok (l, m) => ∃ a cc, e = .returned (.tuple #[.slice a l.length cc, .int .i64 0]) ∧ Kept (fun W => Gens W (.slice a l.length cc) l) (fun k => k < w.heap.size) w' ∧ CurAt w' c K bs (p + m)
  | .error x => e = .returned (.tuple #[.slice none 0 0, .int .i64 x]) ∧ x ≠ 0 ∧ ∃ q, p ≤ q ∧ CurAt w' c K bs q
def gensReadOut (w w' : World) (c : Nat) (K : Nat → Prop) (bs : List UInt8) (p : Nat) (r : Except Int (List Gen × Nat)) (e : Ending) : Prop :=
  match r with
  | .ok (l, m) => ∃ a cc, e = .returned (.tuple #[.slice a l.length cc, .int .i64 0]) ∧ Kept (fun W => Gens W (.slice a l.length cc) l) (fun k => k < w.heap.size) w' ∧ CurAt w' c K bs (p + m)
  | .error x => e = .returned (.tuple #[.slice none 0 0, .int .i64 x]) ∧ x ≠ 0 ∧ CurAt w' c K bs p
def genAllR (l : List UInt8) : Except Int (List Gen × Nat) := match genAllS l with | .error e => .error e | .ok gs => .ok (gs, l.length)
end Go.Proofs.YtacekpdjapgfcaaGreatDoor

namespace Go.Proofs.YtacekpdjapgfcaaGreatDoor
open Go Go.RowKit Go.Q
set_option linter.unusedSimpArgs false
theorem info46 : (Tryz.prog.info? 46).map (fun i => (i.zero, i.size, i.bytes)) = some (some (.agg #[.int .i64 0, .slice none 0 0, .slice none 0 0]), 3, 56) := by kernel_rfl
def rGensOut (K : Nat → Prop) (w' : World) (r : Except Int (List Gen)) (e : Ending) : Prop :=
  match r with
  | .error x => e = .returned (.tuple #[.slice none 0 0, .int .i64 x])
  | .ok gs => ∃ a c, e = .returned (.tuple #[.slice a gs.length c, .int .i64 0]) ∧ Kept (fun W => Gens W (.slice a gs.length c) gs) K w'
def rListOut (K : Nat → Prop) (w' : World) (p : Nat) (r : Except Int (List Gen × Nat)) (e : Ending) : Prop :=
  match r with
  | .error x => e = .returned (.tuple #[.slice none 0 0, .int .i64 p, .int .i64 x])
  | .ok (gs, k) => ∃ a c, e = .returned (.tuple #[.slice a gs.length c, .int .i64 ((p + k : Nat) : Int), .int .i64 0]) ∧ Kept (fun W => Gens W (.slice a gs.length c) gs) K w'
end Go.Proofs.YtacekpdjapgfcaaGreatDoor

namespace Go.Q
open Go Go.RowKit
theorem bytes_keeps {wb w : World} {v : Value} {l : List UInt8} (h : Bytes wb v l) (F : Fr (fun k => wb.heap.size ≤ k) wb w) (K : Nat → Prop) (hK : ∀ k, K k → wb.heap.size ≤ k) : Kept (fun W => Bytes W v l) K w := fun W f =>
  h.fr (F.trans (f.mono (fun k _ hk => hK k hk))) (fun h0 k hk hs => by have := h.lt h0 k hk; omega)
end Go.Q
namespace Go.Proofs.YtacekpdjapgfcaaGreatDoor
open Go Go.RowKit Go.Q
set_option linter.unusedSimpArgs false
set_option maxRecDepth 20000 in
set_option maxHeartbeats 4000000 in
theorem lawToK_any (v : Value) (n : List (List Part)) (wb w : World) (h : NameAt wb v n) (Fb : Fr (fun _ => False) wb w) :
    Calls Tryz.prog 10 #[v] w fun e w' => (∃ a c, e = .returned (.slice a (cutName n).length c) ∧ FRow (fun k => wb.heap.size ≤ k ∧ k < w.heap.size) 90 w' w.heap.size (.slice a (cutName n).length c) (cutName n)) ∧ Fr (fun _ => False) w w' := by
  have H := Lib.hid h
  have HFB := Lib.hid Fb
  obtain ⟨a, cap, rfl, -⟩ := h
  have hcs : cutName n = (n.take 70).map cutStep := rfl
  have HCS := Lib.hid hcs
  clear hcs Fb
  go_enter Tryz.func10, Tryz.ntmps10
  go_wp2_with fail
  go_loopg [3, 4] n.length (fun g u i wr => ∃ (j : Nat) (au : Option Addr) (cu : Nat), g = n.length - j ∧ j ≤ n.length ∧ j ≤ 70 ∧ u = .slice au j cu ∧ i = .int .i64 j ∧ FRow (fun k => wb.heap.size ≤ k ∧ k < w.heap.size) 90 wr w.heap.size (.slice au j cu) ((n.take j).map cutStep) ∧ Fr (fun _ => False) w wr)
  case atStart => exact ⟨0, none, 0, rfl, Nat.zero_le _, by omega, rfl, rfl, FRow.nil _ _ _ _, Fr.refl _⟩
  case round =>
    obtain ⟨j, au, cu, hg, hj, hj70, rfl, rfl, hrow, F⟩ := hrel
    have HG := Lib.hid hg
    have HRW := Lib.hid hrow
    have HF := Lib.hid F
    have hml : ((n.take j).map cutStep).length = j := by rw [List.length_map, List.length_take]; omega
    have HML := Lib.hid hml
    clear hg hrow hml
    by_cases hjl : j < n.length
    · have q1 : (j : Int) < (n.length : Int) := by omega
      by_cases h70 : j < 70
      · have q2 : (j : Int) < 70 := by omega
        obtain ⟨a0, cap0, he, _, _, hx⟩ := H.out
        simp only [Value.slice.injEq, true_and] at he
        obtain ⟨rfl, rfl⟩ := he
        obtain ⟨b, off, rfl, hy⟩ := hx (by omega)
        obtain ⟨r, hr⟩ : ∃ r, n[j]? = some r := ⟨_, List.getElem?_eq_getElem hjl⟩
        obtain ⟨x, e0, hA⟩ := hy j r hr
        have e1 := (HFB.out.trans F).cell e0 (fun h => h)
        have HS := Lib.hid (lawStep_any x r wb wr hA (HFB.out.trans F))
        have HMT := Lib.hid (map_take_succ cutStep hr)
        have r1 : (0 : Int) ≤ (j : Int) := by omega
        clear hx hy hr e0 hA
        obtain ⟨wo, hwo⟩ : ∃ wo : World, wo = wr := ⟨_, rfl⟩
        obtain rfl := hwo
        go_wp2_with fail
        refine HS.out.mono ?_
        rintro e w2 ⟨⟨a2, c2, rfl, hrow2⟩, F2⟩
        have hkp := HRW.out.keep
        have hk2 : Kept (fun W => Attrs W (.slice a2 (cutStep r).length c2) (cutStep r)) (fun k => (Value.slice au j cu).ownBlock = some k ∨ (wb.heap.size ≤ k ∧ k < w.heap.size)) w2 := hrow2.kept ((HFB.out.trans HF.out).trans F2) _ (fun k e => by
          have g1 := HFB.out.size
          have g2 := HF.out.size
          rcases e with e | e
          · have := hkp k e
            omega
          · omega)
        obtain ⟨a7, c7, w7, hrun, hrow7, F7⟩ := FRow.add Tryz.underlying25 info90 (HRW.out.old F2) (HF.out.trans F2).size ((Fr.refl w2).alloc (.cells #[.slice a2 (cutStep r).length c2] 90)) w2.heap.size _ (cutStep r) (Blk.new w2 90 #[.slice a2 (cutStep r).length c2]) rfl hk2 (by rw [HML.out]; omega)
        have HG7 := Lib.hid ((HF.out.trans F2).trans' F7 (fun i hi e => absurd hi (by have := (hkp i e).1; omega)))
        rw [HML.out] at hrun hrow7
        have HRUN := Lib.hid hrun
        have HROW7 := Lib.hid hrow7
        clear hrun hrow7 F7 hk2 hkp hrow2 F2 e1 HS
        go_wp2_with (at_builtin; refine wpList_append_run (by rfl) (.tmp 15) (.tmp 21) 25 (by rfl) _ w7 (by exact HRUN.out) ?_)
        go_roundg (n.length - (j + 1))
        case measure => rw [HG.out]; omega
        case rel => exact ⟨j + 1, a7, c7, rfl, by omega, by omega, rfl, by go_num, by rw [HMT.out]; exact HROW7.out, HG7.out⟩
      · obtain rfl : j = 70 := by omega
        have q2 : ¬ ((70 : Nat) : Int) < 70 := by omega
        have hres : (n.take 70).map cutStep = cutName n := HCS.out.symm
        have hrow := HRW.out
        rw [hres] at hrow
        have hlen : 70 = (cutName n).length := by rw [← hres, HML.out]
        have HL := Lib.hid hlen
        have HROW := Lib.hid hrow
        clear hres hrow hlen
        go_wp2_with fail
        go_ret
        exact ⟨⟨au, cu, by rw [← HL.out]; rfl, by rw [← HL.out]; exact HROW.out⟩, F⟩
    · obtain rfl : j = n.length := by omega
      have hres : (n.take n.length).map cutStep = cutName n := by rw [HCS.out, List.take_of_length_le hj70, List.take_length]
      have hrow := HRW.out
      rw [hres] at hrow
      have hlen : n.length = (cutName n).length := by rw [← hres, HML.out]
      have HL := Lib.hid hlen
      have HROW := Lib.hid hrow
      clear hres hrow hlen
      go_wp2_with fail
      go_ret
      exact ⟨⟨au, cu, by rw [← HL.out]; rfl, by rw [← HL.out]; exact HROW.out⟩, F⟩
set_option maxRecDepth 20000 in
set_option maxHeartbeats 2000000 in
theorem lawGOf_any (u : Value) (g : Gen) (wb w : World) (h : GenAt wb u g) (Fb : Fr (fun _ => False) wb w) (hn : g.n.length ≤ 1000000) (hr : ∀ r ∈ g.n, r.length ≤ 1000000) :
    Calls Tryz.prog 27 #[u] w fun e w' => (∃ ab cb an cn, e = .returned (.agg #[.int .i64 g.k, .slice ab g.b.length cb, .slice an g.n.length cn]) ∧ Kept (fun W => Bytes W (.slice ab g.b.length cb) g.b ∧ NameAt W (.slice an g.n.length cn) g.n) (fun k => wb.heap.size ≤ k ∧ k < w.heap.size) w') ∧ Fr (fun _ => False) w w' := by
  obtain ⟨ab, cb, an, cn, rfl, hb, hnm⟩ := h.form
  obtain ⟨z, hz⟩ : ∃ z, z = w.heap.size := ⟨_, rfl⟩
  have HZ := Lib.hid hz
  have F0 : Fr (fun _ => False) w ((w.alloc (.cells #[.int .i64 g.k, .slice ab g.b.length cb, .slice an g.n.length cn] 42)).alloc (.cells #[.int .i64 0, .slice none 0 0, .slice none 0 0] 46)) := ((Fr.refl w).alloc _).alloc _
  have B := (Blk.new w 42 #[.int .i64 g.k, .slice ab g.b.length cb, .slice an g.n.length cn]).alloc (.cells #[.int .i64 0, .slice none 0 0, .slice none 0 0] 46)
  have D := Blk.new (w.alloc (.cells #[.int .i64 g.k, .slice ab g.b.length cb, .slice an g.n.length cn] 42)) 46 #[.int .i64 0, .slice none 0 0, .slice none 0 0]
  rw [World.size_alloc, ← hz] at D
  rw [← hz] at B
  have HF0 := Lib.hid F0
  have hs0 : w.heap.size + 2 = ((w.alloc (.cells #[.int .i64 g.k, .slice ab g.b.length cb, .slice an g.n.length cn] 42)).alloc (.cells #[.int .i64 0, .slice none 0 0, .slice none 0 0] 46)).heap.size := by rw [World.size_alloc, World.size_alloc]
  have HFB := Lib.hid Fb
  have HBB := Lib.hid hb
  have HO := Lib.hid (fun W (F : Fr (fun _ => False) wb W) => lawOfK_any _ g.n wb W hnm F hn hr)
  clear h hz F0 Fb hb hnm hn hr
  go_enter Tryz.func27, Tryz.ntmps27
  go_upto_region 1 with fail
  rw [← HZ.out]
  have HS0 := Lib.hid hs0
  clear hs0
  generalize ((w.alloc (.cells #[.int .i64 g.k, .slice ab g.b.length cb, .slice an g.n.length cn] 42)).alloc (.cells #[.int .i64 0, .slice none 0 0, .slice none 0 0] 46)) = w0 at *
  replace B := B.drew
  replace D := D.drew
  have G : Fr (fun _ => False) w w0.drew := HF0.out.drew
  have HSD : w0.drew.heap.size = w0.heap.size := rfl
  have HSS := Lib.hid HSD
  clear HSD
  go_region_held3 (fun w' => ∀ j, w'.cell? ⟨z, j, none⟩ = (#[.int .i64 g.k, .slice ab g.b.length cb, .slice an g.n.length cn] : Array Value)[j]?) (first | exact B.cell | exact B5.cell) (first
    | (go_at_call 14; refine (HO.out _ (HFB.out.trans G)).mono ?_; rintro e w' ⟨⟨a9, c9, rfl, hq⟩, F⟩; replace B := B.fr F (fun h => h); replace D := D.fr F (fun h => h); have hkq := hq.kept (fun k => wb.heap.size ≤ k ∧ k < w0.heap.size) (fun k hk => by have h2 := HSS.out; omega); replace G := G.trans F; clear F hq; have d0 := D.cell 0; have d1 := D.cell 1; have d2 := D.cell 2; have f0 := D.frozen 0; have f1 := D.frozen 1; have f2 := D.frozen 2; have D5 := set3 D (.int .i64 g.k) (.slice ab g.b.length cb) (.slice a9 g.n.length c9); have B5 := B.fr D5.2 (by omega); simp only [List.getElem?_toArray, List.getElem?_cons_succ, List.getElem?_cons_zero] at d0 d1 d2))
  all_goals
    have n0 := D5.1.cell 0
    have n1 := D5.1.cell 1
    have n2 := D5.1.cell 2
    simp only [List.getElem?_toArray, List.getElem?_cons_succ, List.getElem?_cons_zero] at n0 n1 n2
    have hbk := bytes_keeps HBB.out ((HFB.out.trans G).mono (T := fun k => wb.heap.size ≤ k) (fun _ _ h => h.elim)) (fun k => wb.heap.size ≤ k ∧ k < w0.heap.size) (fun k hk => hk.1)
    have hsb := HFB.out.size
    have HK := Lib.hid ((Kept.both hbk hkq).step (K' := fun k => wb.heap.size ≤ k ∧ k < w.heap.size) D5.2 (fun k hk e => by have := HZ.out; have := HS0.out; omega) (fun k hk => by have := HS0.out; exact .inl (by omega)))
    have HF := Lib.hid (G.trans' D5.2 (fun i hi e => by have := HZ.out; omega))
    clear hbk hkq B D B5 D5 G
    go_wp2_with fail
    exact bodyPost_ret (v := .agg #[.int .i64 g.k, .slice ab g.b.length cb, .slice a9 g.n.length c9]) (by simp [results, Tryz.results27, go_sem, n0, n1, n2]) rfl ⟨⟨ab, cb, a9, c9, rfl, HK.out⟩, HF.out⟩
set_option maxRecDepth 20000 in
set_option maxHeartbeats 4000000 in
theorem lawAll_any (v : Value) (l : List Gen) (w : World) (h : Gens w v l) (hn : ∀ g ∈ l, g.n.length ≤ 1000000 ∧ ∀ r ∈ g.n, r.length ≤ 1000000) (hl : l.length ≤ 1000000) :
    Calls Tryz.prog 29 #[v] w fun e w' => (∃ a c, e = .returned (.slice a l.length c) ∧ Gens w' (.slice a l.length c) l) ∧ Fr (fun _ => False) w w' := by
  have H := Lib.hid h
  have HN := Lib.hid hn
  obtain ⟨a0, cap0, rfl, -⟩ := h
  clear hn
  go_enter Tryz.func29, Tryz.ntmps29
  go_wp2_with fail
  go_loopg [3, 4] l.length (fun g u i wr => ∃ (j : Nat) (a : Option Addr) (c : Nat) (gs : List Gen), g = l.length - j ∧ j ≤ l.length ∧ u = .slice a gs.length c ∧ i = .int .i64 j ∧ gs.length = j ∧ Hid (gs = l.take j) ∧ GRow 3 RGen (fun _ => False) 46 wr w.heap.size (.slice a gs.length c) gs ∧ Fr (fun _ => False) w wr)
  case atStart => exact ⟨0, none, 0, [], rfl, Nat.zero_le _, rfl, rfl, rfl, Lib.hid rfl, GRow.nil _ _ _ _ _ _, Fr.refl _⟩
  case round =>
    obtain ⟨j, a, c, gs, hg, hj, rfl, rfl, hgl, HGS, hrow, F⟩ := hrel
    have HG := Lib.hid hg
    have HRW := Lib.hid hrow
    have HF := Lib.hid F
    have HGL := Lib.hid hgl
    clear hg hrow
    by_cases hjl : j < l.length
    · obtain ⟨x, hx⟩ : ∃ x, l[j]? = some x := ⟨_, List.getElem?_eq_getElem hjl⟩
      obtain ⟨b, o, ab, cb, an, cn, rfl, -, hga, e0, e1, e2⟩ := H.out.get hx
      replace e0 := F.cell e0 (fun h => h)
      replace e1 := F.cell e1 (fun h => h)
      replace e2 := F.cell e2 (fun h => h)
      have r1 : (0 : Int) ≤ (j : Int) := by omega
      have r2 : (j : Int) < (l.length : Int) := by omega
      have hxn := HN.out x (List.mem_of_getElem? hx)
      have HO := Lib.hid (lawGOf_any _ x w wr hga F hxn.1 hxn.2)
      have HX := Lib.hid hx
      have hkp := HRW.out.keep
      clear hx hga F hxn hgl
      go_wp2_with fail
      refine HO.out.mono ?_
      rintro e w2 ⟨⟨ab2, cb2, an2, cn2, rfl, hk⟩, F2⟩
      obtain ⟨a7, c7, w7, hrun, hrow7, F7, -⟩ := (HRW.out.old F2).add (s := 52) Tryz.underlying52 info46 rfl (by decide) (by decide) (HF.out.trans F2).size ((Fr.refl w2).alloc (.cells #[.int .i64 x.k, .slice ab2 x.b.length cb2, .slice an2 x.n.length cn2] 46)) w2.heap.size [.int .i64 x.k, .slice ab2 x.b.length cb2, .slice an2 x.n.length cn2] rfl (Blk.new w2 46 #[.int .i64 x.k, .slice ab2 x.b.length cb2, .slice an2 x.n.length cn2]) (by simp [Value.oneCell']) x ((hk.weaken (fun k hk => by
        rcases hk with hk | hk
        · exact hkp k hk
        · exact hk.elim)).imp (fun W h => ⟨_, _, rfl, h.1, h.2⟩)) (by have := HGL.out; omega)
      have HRUN := Lib.hid hrun
      have HRW7 := Lib.hid hrow7
      have HF7 := Lib.hid ((HF.out.trans F2).trans' F7 (fun i hi e => absurd hi (by have := (hkp i e).1; omega)))
      have HGS7 := Lib.hid (show gs ++ [x] = l.take (j + 1) by rw [List.take_add_one, HX.out, HGS.out]; rfl)
      clear F2 hk hrun hrow7 F7 HO HRW hkp e0 e1 e2
      go_wp2_with (at_builtin; refine wpList_append_run (by rfl) (.tmp 11) (.tmp 17) 52 (by rfl) _ w7 (by exact HRUN.out) ?_)
      go_roundg (l.length - (j + 1))
      case measure => rw [HG.out]; omega
      case rel => exact ⟨j + 1, a7, c7, gs ++ [x], rfl, by omega, by rw [List.length_append]; rfl, by go_num, by rw [List.length_append, HGL.out]; rfl, HGS7, by rw [List.length_append]; exact HRW7.out, HF7.out⟩
    · have hgs := HGS.out
      rw [List.take_of_length_le (by omega)] at hgs
      have HE := Lib.hid hgs
      clear hgs hgl
      go_wp2_with fail
      go_ret
      rw [← HE.out]
      exact ⟨⟨a, c, rfl, HRW.out.at (by decide)⟩, F⟩
end Go.Proofs.YtacekpdjapgfcaaGreatDoor

namespace Go.Q
open Go Go.RowKit
def cutGen (g : Gen) : Gen := ⟨g.k, g.b.take 300, cutName (g.n.take 5)⟩
end Go.Q
namespace Go.Proofs.YtacekpdjapgfcaaGreatDoor
open Go Go.RowKit Go.Q
set_option linter.unusedSimpArgs false
set_option maxRecDepth 20000 in
set_option maxHeartbeats 4000000 in
theorem lawGTo_any (u : Value) (g : Gen) (wb w : World) (h : GenAt wb u g) (Fb : Fr (fun _ => False) wb w) :
    Calls Tryz.prog 40 #[u] w fun e w' => (∃ ab cb an cn, e = .returned (.agg #[.int .i64 (cutGen g).k, .slice ab (cutGen g).b.length cb, .slice an (cutGen g).n.length cn]) ∧ Kept (fun W => Bytes W (.slice ab (cutGen g).b.length cb) (cutGen g).b ∧ NameAt W (.slice an (cutGen g).n.length cn) (cutGen g).n) (fun k => wb.heap.size ≤ k ∧ k < w.heap.size) w') ∧ Fr (fun _ => False) w w' := by
  obtain ⟨ab, cb, an, cn, rfl, hb, hnm⟩ := h.form
  obtain ⟨_, _, he, hc1, hm1, -⟩ := Vals.form hb
  simp only [Value.slice.injEq] at he
  obtain ⟨rfl, -, rfl⟩ := he
  have hnm0 := hnm
  obtain ⟨_, _, he, hc2, hm2, -⟩ := hnm0
  simp only [Value.slice.injEq] at he
  obtain ⟨rfl, -, rfl⟩ := he
  unfold maxLen at hm1 hm2
  obtain ⟨mb, hmb⟩ : ∃ m : Nat, m = min g.b.length 300 := ⟨_, rfl⟩
  obtain ⟨mn, hmn⟩ : ∃ m : Nat, m = min g.n.length 5 := ⟨_, rfl⟩
  have HBB := Lib.hid (Vals.cut hb 300 mb hmb)
  have hnc := NameAt.cut hnm 5 mn hmn
  have hbl : (g.b.take 300).length = mb := by rw [List.length_take, hmb, Nat.min_comm]
  have HBL := Lib.hid hbl
  have c1 : min (g.b.length : Int) 300 = (mb : Int) := by omega
  have c2 : min (g.n.length : Int) 5 = (mn : Int) := by omega
  have c3 : (mb : Int) ≤ (cb : Int) := by omega
  have c4 : (mn : Int) ≤ (cn : Int) := by omega
  have c5 : (0 : Int) ≤ (mb : Int) := by omega
  have c6 : (0 : Int) ≤ (mn : Int) := by omega
  obtain ⟨z, hz⟩ : ∃ z, z = w.heap.size := ⟨_, rfl⟩
  have HZ := Lib.hid hz
  have F0 : Fr (fun _ => False) w ((w.alloc (.cells #[.int .i64 g.k, .slice ab g.b.length cb, .slice an g.n.length cn] 46)).alloc (.cells #[.int .i64 0, .slice none 0 0, .slice none 0 0] 42)) := ((Fr.refl w).alloc _).alloc _
  have B := (Blk.new w 46 #[.int .i64 g.k, .slice ab g.b.length cb, .slice an g.n.length cn]).alloc (.cells #[.int .i64 0, .slice none 0 0, .slice none 0 0] 42)
  have D := Blk.new (w.alloc (.cells #[.int .i64 g.k, .slice ab g.b.length cb, .slice an g.n.length cn] 46)) 42 #[.int .i64 0, .slice none 0 0, .slice none 0 0]
  rw [World.size_alloc, ← hz] at D
  rw [← hz] at B
  have HF0 := Lib.hid F0
  have hs0 : w.heap.size + 2 = ((w.alloc (.cells #[.int .i64 g.k, .slice ab g.b.length cb, .slice an g.n.length cn] 46)).alloc (.cells #[.int .i64 0, .slice none 0 0, .slice none 0 0] 42)).heap.size := by rw [World.size_alloc, World.size_alloc]
  have HFB := Lib.hid Fb
  have HO := Lib.hid (fun W (F : Fr (fun _ => False) wb W) => lawToK_any _ (g.n.take 5) wb W hnc F)
  obtain ⟨q, hq0⟩ : ∃ q, q = cutName (g.n.take 5) := ⟨_, rfl⟩
  have HCG := Lib.hid (show cutGen g = ⟨g.k, g.b.take 300, q⟩ by rw [hq0]; rfl)
  rw [← hq0] at HO
  clear h hz F0 Fb hb hnm hnc hbl hmb hmn hq0 hc1 hc2
  go_enter Tryz.func40, Tryz.ntmps40
  go_upto_region 1 with fail
  rw [← HZ.out]
  have HS0 := Lib.hid hs0
  clear hs0
  generalize ((w.alloc (.cells #[.int .i64 g.k, .slice ab g.b.length cb, .slice an g.n.length cn] 46)).alloc (.cells #[.int .i64 0, .slice none 0 0, .slice none 0 0] 42)) = w0 at *
  replace B := B.drew
  replace D := D.drew
  have G : Fr (fun _ => False) w w0.drew := HF0.out.drew
  have HSD : w0.drew.heap.size = w0.heap.size := rfl
  have HSS := Lib.hid HSD
  clear HSD
  go_region_held3 (fun w' => ∀ j, w'.cell? ⟨z, j, none⟩ = (#[.int .i64 g.k, .slice ab g.b.length cb, .slice an g.n.length cn] : Array Value)[j]?) (first | exact B.cell | exact B5.cell) (first
    | (go_at_call 10; refine (HO.out _ (HFB.out.trans G)).mono ?_; rintro e w' ⟨⟨a9, c9, rfl, hq⟩, F⟩; replace B := B.fr F (fun h => h); replace D := D.fr F (fun h => h); have hkq := hq.kept (fun k => wb.heap.size ≤ k ∧ k < w0.heap.size) (fun k hk => by have h2 := HSS.out; omega); replace G := G.trans F; clear F hq; have d0 := D.cell 0; have d1 := D.cell 1; have d2 := D.cell 2; have f0 := D.frozen 0; have f1 := D.frozen 1; have f2 := D.frozen 2; have D5 := set3 D (.int .i64 g.k) (.slice ab mb cb) (.slice a9 q.length c9); have B5 := B.fr D5.2 (by omega); simp only [List.getElem?_toArray, List.getElem?_cons_succ, List.getElem?_cons_zero] at d0 d1 d2))
  all_goals
    have n0 := D5.1.cell 0
    have n1 := D5.1.cell 1
    have n2 := D5.1.cell 2
    simp only [List.getElem?_toArray, List.getElem?_cons_succ, List.getElem?_cons_zero] at n0 n1 n2
    have hbk := bytes_keeps HBB.out ((HFB.out.trans G).mono (T := fun k => wb.heap.size ≤ k) (fun _ _ h => h.elim)) (fun k => wb.heap.size ≤ k ∧ k < w0.heap.size) (fun k hk => hk.1)
    have hsb := HFB.out.size
    have HK := Lib.hid ((Kept.both hbk hkq).step (K' := fun k => wb.heap.size ≤ k ∧ k < w.heap.size) D5.2 (fun k hk e => by have := HZ.out; have := HS0.out; omega) (fun k hk => by have := HS0.out; exact .inl (by omega)))
    have HF := Lib.hid (G.trans' D5.2 (fun i hi e => by have := HZ.out; omega))
    clear hbk hkq B D B5 D5 G
    go_wp2_with fail
    refine bodyPost_ret (v := .agg #[.int .i64 g.k, .slice ab mb cb, .slice a9 q.length c9]) (by simp [results, Tryz.results40, go_sem, n0, n1, n2]) rfl ⟨⟨ab, cb, a9, c9, ?_, ?_⟩, HF.out⟩
    · rw [HCG.out, HBL.out]
    · rw [HCG.out]
      show Kept (fun W => Bytes W (.slice ab (g.b.take 300).length cb) (g.b.take 300) ∧ NameAt W (.slice a9 q.length c9) q) _ _
      rw [HBL.out]
      exact HK.out
end Go.Proofs.YtacekpdjapgfcaaGreatDoor

namespace Go.Q
open Go Go.RowKit
def fewS (l : List Gen) : List Gen := (l.take 20).map cutGen
theorem few_take {l : List Gen} {j : Nat} {x : Gen} (h : l[j]? = some x) : (l.take (j + 1)).map cutGen = (l.take j).map cutGen ++ [cutGen x] := by
  rw [List.take_add_one, h, List.map_append]
  rfl
end Go.Q
namespace Go.Proofs.YtacekpdjapgfcaaGreatDoor
open Go Go.RowKit Go.Q
set_option linter.unusedSimpArgs false
set_option maxRecDepth 20000 in
set_option maxHeartbeats 4000000 in
theorem lawFew_any (v : Value) (l : List Gen) (w : World) (h : Gens w v l) :
    Calls Tryz.prog 30 #[v] w fun e w' => (∃ a c, e = .returned (.slice a (fewS l).length c) ∧ Gens w' (.slice a (fewS l).length c) (fewS l)) ∧ Fr (fun _ => False) w w' := by
  have H := Lib.hid h
  have HDF := Lib.hid (show fewS l = (l.take 20).map cutGen from rfl)
  obtain ⟨a0, cap0, rfl, -⟩ := h
  go_enter Tryz.func30, Tryz.ntmps30
  go_wp2_with fail
  go_loopg [3, 4] l.length (fun g u i wr => ∃ (j : Nat) (a : Option Addr) (c : Nat) (gs : List Gen), g = l.length - j ∧ j ≤ l.length ∧ j ≤ 20 ∧ u = .slice a gs.length c ∧ i = .int .i64 j ∧ gs.length = j ∧ Hid (gs = (l.take j).map cutGen) ∧ GRow 3 RGen (fun _ => False) 42 wr w.heap.size (.slice a gs.length c) gs ∧ Fr (fun _ => False) w wr)
  case atStart => exact ⟨0, none, 0, [], rfl, Nat.zero_le _, by omega, rfl, rfl, rfl, Lib.hid rfl, GRow.nil _ _ _ _ _ _, Fr.refl _⟩
  case round =>
    obtain ⟨j, a, c, gs, hg, hj, hj20, rfl, rfl, hgl, HGS, hrow, F⟩ := hrel
    have HG := Lib.hid hg
    have HRW := Lib.hid hrow
    have HF := Lib.hid F
    have HGL := Lib.hid hgl
    clear hg hrow
    by_cases hjl : j < l.length
    · by_cases h20 : j < 20
      · obtain ⟨x, hx⟩ : ∃ x, l[j]? = some x := ⟨_, List.getElem?_eq_getElem hjl⟩
        obtain ⟨b, o, ab, cb, an, cn, rfl, -, hga, e0, e1, e2⟩ := H.out.get hx
        replace e0 := F.cell e0 (fun h => h)
        replace e1 := F.cell e1 (fun h => h)
        replace e2 := F.cell e2 (fun h => h)
        have r1 : (0 : Int) ≤ (j : Int) := by omega
        have r2 : (j : Int) < (l.length : Int) := by omega
        have r3 : (j : Int) < 20 := by omega
        have HO := Lib.hid (lawGTo_any _ x w wr hga F)
        have HX := Lib.hid (few_take hx)
        have hkp := HRW.out.keep
        clear hx hga F hgl h20
        generalize cutGen x = y at *
        go_wp2_with fail
        refine HO.out.mono ?_
        rintro e w2 ⟨⟨ab2, cb2, an2, cn2, rfl, hk⟩, F2⟩
        obtain ⟨a7, c7, w7, hrun, hrow7, F7, -⟩ := (HRW.out.old F2).add (s := 49) Tryz.underlying49 info42 rfl (by decide) (by decide) (HF.out.trans F2).size ((Fr.refl w2).alloc (.cells #[.int .i64 y.k, .slice ab2 y.b.length cb2, .slice an2 y.n.length cn2] 42)) w2.heap.size [.int .i64 y.k, .slice ab2 y.b.length cb2, .slice an2 y.n.length cn2] rfl (Blk.new w2 42 #[.int .i64 y.k, .slice ab2 y.b.length cb2, .slice an2 y.n.length cn2]) (by simp [Value.oneCell']) y ((hk.weaken (fun k hk => by
          rcases hk with hk | hk
          · exact hkp k hk
          · exact hk.elim)).imp (fun W h => ⟨_, _, rfl, h.1, h.2⟩)) (by have := HGL.out; omega)
        have HRUN := Lib.hid hrun
        have HRW7 := Lib.hid hrow7
        have HF7 := Lib.hid ((HF.out.trans F2).trans' F7 (fun i hi e => absurd hi (by have := (hkp i e).1; omega)))
        have HGS7 := Lib.hid (show gs ++ [y] = (l.take (j + 1)).map cutGen by rw [HX.out, HGS.out])
        clear F2 hk hrun hrow7 F7 HO HRW hkp e0 e1 e2
        go_wp2_with (at_builtin; refine wpList_append_run (by rfl) (.tmp 15) (.tmp 21) 49 (by rfl) _ w7 (by exact HRUN.out) ?_)
        go_roundg (l.length - (j + 1))
        case measure => rw [HG.out]; omega
        case rel => exact ⟨j + 1, a7, c7, gs ++ [y], rfl, by omega, by omega, by rw [List.length_append]; rfl, by go_num, by rw [List.length_append, HGL.out]; rfl, HGS7, by rw [List.length_append]; exact HRW7.out, HF7.out⟩
      · obtain rfl : j = 20 := by omega
        have q2 : ¬ ((20 : Nat) : Int) < 20 := by omega
        have q1 : ((20 : Nat) : Int) < (l.length : Int) := by omega
        have HE := Lib.hid (show gs = fewS l by rw [HGS.out, HDF.out])
        clear hgl hj20 h20
        go_wp2_with fail
        go_ret
        rw [← HE.out]
        exact ⟨⟨a, c, rfl, HRW.out.at (by decide)⟩, F⟩
    · have HE := Lib.hid (show gs = fewS l by rw [HGS.out, HDF.out, List.take_of_length_le (by omega), List.take_of_length_le (by omega)])
      clear hgl
      go_wp2_with fail
      go_ret
      rw [← HE.out]
      exact ⟨⟨a, c, rfl, HRW.out.at (by decide)⟩, F⟩
end Go.Proofs.YtacekpdjapgfcaaGreatDoor

namespace Go.Q
open Go Go.RowKit
end Go.Q
namespace Go.Proofs.YtacekpdjapgfcaaGreatDoor
open Go Go.RowKit Go.Q
set_option linter.unusedSimpArgs false
end Go.Proofs.YtacekpdjapgfcaaGreatDoor

namespace Go.Q
open Go Go.RowKit
def genAll (l : List Gen) : List UInt8 := (l.map genWhole).flatten
end Go.Q
namespace Go.Proofs.YtacekpdjapgfcaaGreatDoor
open Go Go.RowKit Go.Q
set_option linter.unusedSimpArgs false
def allOkS (l : List Gen) : Bool := l.all genOk && decide (0 < l.length ∧ l.length ≤ 10000)
end Go.Proofs.YtacekpdjapgfcaaGreatDoor

namespace Go.Proofs.YtacekpdjapgfcaaGreatDoor
open Go Go.RowKit Go.Q
set_option linter.unusedSimpArgs false
end Go.Proofs.YtacekpdjapgfcaaGreatDoor

namespace Go.Q
open Go Go.RowKit
instance : DecidableEq Gen := fun p q => if h : p.k = q.k ∧ p.b = q.b ∧ p.n = q.n then isTrue (by cases p; cases q; simp_all) else isFalse (fun e => h (by rw [e]; exact ⟨rfl, rfl, rfl⟩))
end Go.Q
namespace Go.Proofs.YtacekpdjapgfcaaGreatDoor
open Go Go.RowKit Go.Q
set_option linter.unusedSimpArgs false
end Go.Proofs.YtacekpdjapgfcaaGreatDoor

namespace Go.Q
open Go Go.RowKit
def nmVal : Except Int (List (List Part) × Nat) → List (List Part) | .ok (n, _) => n | .error _ => []
def stVal : Except Int (List Part × Nat) → List Part | .ok (n, _) => n | .error _ => []
def psVal : Except Int (List (List Part)) → List (List Part) | .ok n => n | .error _ => []
def atOf {α : Type} : Except Int (α × Nat) → Nat | .ok (_, k) => k | .error _ => 0
def errOf {α : Type} : Except Int α → Int | .ok _ => 0 | .error x => x
theorem NameAt.one {w : World} {g : Nat} {t : TypeId} {u : Value} {r : List Part} (B : Blk w g t #[u]) (h : Attrs w u r) : NameAt w (.slice (some ⟨g, 0, none⟩) 1 1) [r] :=
  ⟨_, 1, rfl, Nat.le_refl _, by unfold maxLen; omega, fun _ => ⟨g, 0, rfl, fun i q hq => by
    match i, hq with
    | 0, hq =>
      simp only [List.getElem?_cons_zero, Option.some.injEq] at hq
      subst hq
      exact ⟨u, B.cell 0, h⟩
    | i + 1, hq => simp at hq⟩⟩
end Go.Q
namespace Go.Proofs.YtacekpdjapgfcaaGreatDoor
open Go Go.RowKit Go.Q
end Go.Proofs.YtacekpdjapgfcaaGreatDoor

namespace Go.Q
open Go Go.RowKit
end Go.Q

namespace Go.Q
open Go Go.RowKit
def gVal : Except Int (Gen × Nat) → Gen | .ok (g, _) => g | .error _ => ⟨0, [], []⟩
def gsVal : Except Int (List Gen × Nat) → List Gen | .ok (g, _) => g | .error _ => []
def gaVal : Except Int (List Gen) → List Gen | .ok g => g | .error _ => []
def smallG (g : Gen) : Prop := g.n.length ≤ 64 ∧ ∀ r ∈ g.n, r.length ≤ 16
def allAt (l : List UInt8) : Nat := match genAllS l with | .ok _ => l.length | .error _ => 0
end Go.Q
namespace Go.Proofs.YtacekpdjapgfcaaGreatDoor
open Go Go.RowKit Go.Q
end Go.Proofs.YtacekpdjapgfcaaGreatDoor

namespace Go.Q
open Go Go.RowKit
theorem cutGen_len (g : Gen) : (cutGen g).b.length ≤ 300 ∧ (cutGen g).n.length ≤ 5 ∧ (∀ r ∈ (cutGen g).n, r.length ≤ 20) ∧ ∀ r ∈ (cutGen g).n, ∀ p ∈ r, p.b.length ≤ 200 := by
  refine ⟨?_, ?_, fun r hr => ?_, cutName_200 _⟩
  · show (g.b.take 300).length ≤ 300
    rw [List.length_take]
    omega
  · show (cutName (g.n.take 5)).length ≤ 5
    unfold cutName
    rw [List.length_map, List.length_take, List.length_take]
    omega
  · obtain ⟨q, -, rfl⟩ := List.mem_map.1 hr
    exact cutStep_len q
theorem cutGen_few (g : Gen) : fewG (cutGen g) := ⟨by have := (cutGen_len g).1; omega, fun r hr p hp => by have := (cutGen_len g).2.2.2 r hr p hp; omega⟩
theorem few_few {l : List Gen} : ∀ g ∈ fewS l, fewG g := fun g hg => by
  obtain ⟨q, -, rfl⟩ := List.mem_map.1 hg
  exact cutGen_few q
theorem few_len (l : List Gen) : (fewS l).length ≤ 20 := by
  unfold fewS
  rw [List.length_map, List.length_take]
  omega
theorem few_big {l : List Gen} : ∀ g ∈ fewS l, g.n.length ≤ 1000000 ∧ ∀ r ∈ g.n, r.length ≤ 1000000 := fun g hg => by
  obtain ⟨q, -, rfl⟩ := List.mem_map.1 hg
  obtain ⟨-, h1, h2, -⟩ := cutGen_len q
  exact ⟨by omega, fun r hr => by have := h2 r hr; omega⟩
end Go.Q
namespace Go.Proofs.YtacekpdjapgfcaaGreatDoor
open Go Go.RowKit Go.Q
end Go.Proofs.YtacekpdjapgfcaaGreatDoor

namespace Go.Q
open Go Go.RowKit
theorem lowB_toNat (c : UInt8) : (lowB c).toNat = if 65 ≤ c.toNat ∧ c.toNat ≤ 90 then c.toNat + 32 else c.toNat := by
  unfold lowB
  split
  · rw [UInt8.toNat_add]
    have : (32 : UInt8).toNat = 32 := rfl
    omega
  · rfl
theorem lowB_dot (c : UInt8) : lowB c = 46 ↔ c = 46 := by
  rw [← UInt8.toNat_inj, ← UInt8.toNat_inj, lowB_toNat, show (46 : UInt8).toNat = 46 from rfl]
  split <;> omega
theorem lower_len (l : List UInt8) : (lowerS l).length = l.length := by simp [lowerS]
theorem dot_lower (l : List UInt8) : dotS (lowerS l) = lowerS (dotS l) := by
  unfold dotS lowerS
  rw [List.getLast?_map]
  have h : (Option.map lowB l.getLast? = some 46) ↔ l.getLast? = some 46 := by
    cases l.getLast? with
    | none => simp
    | some x => simp [lowB_dot]
  by_cases hd : l.getLast? = some 46
  · rw [if_pos (h.2 hd), if_pos hd, List.map_dropLast]
  · rw [if_neg (fun e => hd (h.1 e)), if_neg hd]
theorem dot_len (l : List UInt8) : (dotS l).length ≤ l.length := by
  unfold dotS
  split
  · rw [List.length_dropLast]; omega
  · omega
theorem cutAt_ne (c : UInt8) : ∀ l : List UInt8, cutAt c l ≠ []
  | [] => by simp [cutAt]
  | x :: t => by
    unfold cutAt
    split
    · simp
    · split <;> simp
theorem cutAt_lower : ∀ l : List UInt8, cutAt 46 (lowerS l) = (cutAt 46 l).map lowerS
  | [] => rfl
  | x :: t => by
    have ih := cutAt_lower t
    have e : lowerS (x :: t) = lowB x :: lowerS t := rfl
    rw [e]
    unfold cutAt
    by_cases h : x = 46
    · rw [if_pos h, if_pos ((lowB_dot x).2 h), ih]
      rfl
    · rw [if_neg h, if_neg (fun e => h ((lowB_dot x).1 e)), ih]
      cases cutAt 46 t with
      | nil => rfl
      | cons a r => rfl
theorem join_cutAt (c : UInt8) : ∀ l : List UInt8, Lib.join (cutAt c l) [c] = l
  | [] => rfl
  | x :: t => by
    have ih := join_cutAt c t
    have hne := cutAt_ne c t
    unfold cutAt
    cases hc : cutAt c t with
    | nil => exact absurd hc hne
    | cons a r =>
      rw [hc] at ih
      by_cases h : x = c
      · subst h
        rw [if_pos rfl]
        have : Lib.join ([] :: a :: r) [x] = x :: Lib.join (a :: r) [x] := by simp [Lib.join, List.intercalate, List.intersperse]
        rw [this, ih]
      · rw [if_neg h]
        have : Lib.join ((x :: a) :: r) [c] = x :: Lib.join (a :: r) [c] := by
          cases r with
          | nil => simp [Lib.join, List.intercalate, List.intersperse]
          | cons b r => simp [Lib.join, List.intercalate, List.intersperse]
        simp only
        rw [this, ih]
def labGo (done : List (List UInt8)) (one : List UInt8) : List UInt8 → Option (List (List UInt8))
  | [] => if 1 ≤ one.length ∧ one.length ≤ 63 then some (done ++ [one]) else none
  | c :: t => if c = 46 then (if 1 ≤ one.length ∧ one.length ≤ 63 then labGo (done ++ [one]) [] t else none) else if labelC c then labGo done (one ++ [c]) t else none
def labL (l : List UInt8) : Bool := decide (1 ≤ l.length ∧ l.length ≤ 63) && l.all labelC
theorem labGo_cut : ∀ (t one : List UInt8) (done : List (List UInt8)), one.all labelC = true → labGo done one t = match cutAt 46 t with
    | [] => none
    | h :: r => if labL (one ++ h) && r.all labL then some (done ++ (one ++ h) :: r) else none
  | [], one, done, h1 => by
    simp only [labGo, cutAt, List.append_nil, List.all_nil, Bool.and_true]
    unfold labL
    rw [h1, Bool.and_true]
    simp
  | c :: t, one, done, h1 => by
    have hne := cutAt_ne 46 t
    unfold labGo cutAt
    by_cases hc : c = 46
    · rw [if_pos hc, if_pos hc]
      have ih := labGo_cut t [] (done ++ [one]) rfl
      rw [ih]
      cases hx : cutAt 46 t with
      | nil => exact absurd hx hne
      | cons a r =>
        simp only [List.append_nil, List.nil_append, List.all_cons]
        have e : labL one = decide (1 ≤ one.length ∧ one.length ≤ 63) := by unfold labL; rw [h1, Bool.and_true]
        rw [e]
        by_cases hl : 1 ≤ one.length ∧ one.length ≤ 63
        · rw [if_pos hl, decide_eq_true hl]
          simp
        · rw [if_neg hl, decide_eq_false hl]
          simp
    · rw [if_neg hc, if_neg hc]
      cases hx : cutAt 46 t with
      | nil => exact absurd hx hne
      | cons a r =>
        by_cases hl : labelC c = true
        · rw [if_pos hl, labGo_cut t (one ++ [c]) done (by rw [List.all_append, h1]; simp [hl]), hx]
          simp
        · rw [if_neg hl]
          have : labL (one ++ c :: a) = false := by
            unfold labL
            have hl2 : labelC c = false := by simpa using hl
            rw [List.all_append, List.all_cons, hl2]
            simp
          simp only [this, Bool.false_and]
          rfl
def labelsS (l : List UInt8) : Option (List (List UInt8)) := if 253 < (dotS (lowerS l)).length then none else labGo [] [] (dotS (lowerS l))
theorem labels_host (l : List UInt8) : (labelsS l).map (fun ks => Lib.join ks [46]) = hostS l := by
  unfold labelsS hostS
  rw [dot_lower, lower_len]
  by_cases h : 253 < (dotS l).length
  · rw [if_pos h, if_pos h]
    rfl
  rw [if_neg h, if_neg h, labGo_cut _ [] [] rfl, cutAt_lower]
  have hall : ∀ ks : List (List UInt8), (ks.map lowerS).all labL = ks.all labelB := by
    intro ks
    rw [List.all_map]
    congr 1
    funext k
    show labL (lowerS k) = labelB k
    unfold labL labelB
    rw [lower_len]
  have hj := join_cutAt 46 (lowerS (dotS l))
  rw [cutAt_lower] at hj
  cases hx : cutAt 46 (dotS l) with
  | nil => exact absurd hx (cutAt_ne _ _)
  | cons a r =>
    rw [hx] at hj
    simp only [List.map_cons, List.nil_append] at hj ⊢
    have e := hall (a :: r)
    rw [List.map_cons, List.all_cons] at e
    rw [e]
    by_cases hr : (a :: r).all labelB = true
    · rw [if_pos hr, if_pos hr, Option.map_some, hj]
    · rw [if_neg hr, if_neg hr]
      rfl
end Go.Q

namespace Go.Proofs.YtacekpdjapgfcaaGreatDoor
open Go Go.RowKit Go.Q
theorem str_size (l : List UInt8) : (ByteArray.mk l.toArray).size = l.length := by simp [ByteArray.size]
theorem str_to (l : List UInt8) (c : Nat) (hc : c ≤ l.length) (w : World) : (Instr.slice 9 (str l) none (some (.int .i64 (c : Int))) none).run Tryz.prog w = .ok (str (l.take c)) w := by
  rw [run_slice_string_to_if w 9 _ .i64 _ Tryz.underlying9, if_pos ⟨by omega, by rw [str_size]; omega⟩, ByteArray.extract_mk]
  simp
theorem str_from (l : List UInt8) (c : Nat) (hc : c ≤ l.length) (w : World) : (Instr.slice 9 (str l) (some (.int .i64 (c : Int))) none none).run Tryz.prog w = .ok (str (l.drop c)) w := by
  rw [run_slice_string_from_if w 9 _ .i64 _ Tryz.underlying9, if_pos ⟨by omega, by rw [str_size]; omega⟩, ByteArray.extract_mk, str_size, Int.toNat_natCast, List.take_of_length_le (by rw [List.length_drop]; omega)]
theorem str_one {l : List UInt8} {c : Nat} {x : UInt8} (h : l[c]? = some x) (w : World) : (Instr.slice 9 (str l) (some (.int .i64 (c : Int))) (some (.int .i64 ((c : Int) + 1))) none).run Tryz.prog w = .ok (str [x]) w := by
  obtain ⟨hl, rfl⟩ := List.getElem?_eq_some_iff.1 h
  rw [run_slice_string w 9 _ .i64 .i64 _ _ Tryz.underlying9 (by omega) (by omega) (by rw [str_size]; omega), ByteArray.extract_mk]
  rw [show ((c : Int) + 1).toNat - ((c : Int)).toNat = 1 from by omega, Int.toNat_natCast, List.drop_eq_getElem_cons hl]
  rfl
theorem str_index {l : List UInt8} {c : Nat} {x : UInt8} (h : l[c]? = some x) (w : World) : (Instr.index 9 (str l) (.int .i64 (c : Int))).run Tryz.prog w = .ok (.int .u8 x.toNat) w := by
  obtain ⟨hl, rfl⟩ := List.getElem?_eq_some_iff.1 h
  rw [run_index_string w 9 _ .i64 _ Tryz.underlying9, dif_pos ⟨by omega, by rw [str_size]; omega⟩]
  simp
  rfl
end Go.Proofs.YtacekpdjapgfcaaGreatDoor

namespace Go.Q
open Go Go.RowKit
def Blf (w : World) (b : Nat) (t : TypeId) (cs : Array Value) : Prop := w.heap[b]? = some (.cells cs t (cs.size, cs.size + 1))
theorem Blf.cell {w : World} {b : Nat} {t : TypeId} {cs : Array Value} (h : Blf w b t cs) (i : Nat) : w.cell? ⟨b, i, none⟩ = cs[i]? := by
  unfold Blf at h; simp [World.cell?, h]
theorem Blf.frozen {w : World} {b : Nat} {t : TypeId} {cs : Array Value} (h : Blf w b t cs) {i : Nat} (hi : i < cs.size) : w.frozen? ⟨b, i, none⟩ = false := by
  unfold Blf at h
  simp only [World.frozen?, h]
  simp
  omega
theorem Blf.set {w : World} {b : Nat} {t : TypeId} {cs : Array Value} (h : Blf w b t cs) (i : Nat) (v : Value) : Blf (w.setCell ⟨b, i, none⟩ v) b t (cs.setIfInBounds i v) := by
  unfold Blf at *; simp [World.setCell, Array.getElem?_modify, h]
theorem Blf.bytes {w : World} {b : Nat} {t : TypeId} {cs : Array Value} (h : Blf w b t cs) {l : List UInt8} {n c : Nat} (hn : n = l.length) (hc : l.length ≤ c) (hm : c ≤ maxLen) (hl : ∀ (i : Nat) (x : UInt8), l[i]? = some x → cs[i]? = some (Value.int .u8 x.toNat)) : Bytes w (.slice (some ⟨b, 0, none⟩) n c) l := by
  subst hn
  refine ⟨_, c, by rw [byteCells_len], by rw [byteCells_len]; exact hc, hm, fun _ => ⟨b, 0, rfl, fun i u hu => ?_⟩⟩
  rw [byteCells_get] at hu
  cases hli : l[i]? with
  | none => rw [hli] at hu; cases hu
  | some x =>
    rw [hli] at hu
    simp only [Option.map_some, Option.some.injEq] at hu
    subst hu
    rw [Nat.zero_add, h.cell i]
    exact hl i x hli
theorem low_take {l : List UInt8} {j : Nat} {x : UInt8} (h : l[j]? = some x) : (lowerS (l.take j) ++ l.drop j).set j (lowB x) = lowerS (l.take (j + 1)) ++ l.drop (j + 1) := by
  obtain ⟨hl, rfl⟩ := List.getElem?_eq_some_iff.1 h
  have e1 : (lowerS (l.take j)).length = j := by rw [lower_len, List.length_take]; omega
  rw [List.set_append_right _ _ (by omega), e1, Nat.sub_self, List.drop_eq_getElem_cons hl, List.set_cons_zero, List.take_add_one, List.getElem?_eq_getElem hl]
  unfold lowerS
  rw [List.map_append, List.append_assoc]
  rfl
theorem low_at {l : List UInt8} {j : Nat} {x : UInt8} (h : l[j]? = some x) : (lowerS (l.take j) ++ l.drop j)[j]? = some x := by
  obtain ⟨hl, rfl⟩ := List.getElem?_eq_some_iff.1 h
  have e1 : (lowerS (l.take j)).length = j := by rw [lower_len, List.length_take]; omega
  rw [List.getElem?_append_right (by omega), e1, Nat.sub_self, List.drop_eq_getElem_cons hl]
  rfl
theorem lowMix_len (l : List UInt8) (j : Nat) : (lowerS (l.take j) ++ l.drop j).length = l.length := by
  rw [List.length_append, lower_len, List.length_take, List.length_drop]
  omega
end Go.Q
namespace Go.Proofs.YtacekpdjapgfcaaGreatDoor
open Go Go.RowKit Go.Q
set_option linter.unusedSimpArgs false
theorem blf_of_str (w : World) (l : List UInt8) (hl : l.length ≤ 1099511627776) : ∃ c w' cs, (Go.convert 9 23 (str l)).run Tryz.prog w = .ok (.slice (some ⟨w.heap.size, 0, none⟩) l.length c) w' ∧ Blf w' w.heap.size 5 cs ∧ (∀ (i : Nat) (x : UInt8), l[i]? = some x → cs[i]? = some (Value.int .u8 x.toNat)) ∧ l.length ≤ c ∧ c ≤ maxLen ∧ Fr (fun _ => False) w w' ∧ w'.heap.size = w.heap.size + 1 := by
  have hr := Lib.run_convert_string_bytes (P := Tryz.prog) w 9 23 5 ⟨l.toArray⟩ Tryz.underlying9 Tryz.underlying23 Tryz.underlying5
  have hs : (ByteArray.mk l.toArray).size = l.length := by simp [ByteArray.size]
  rw [hs] at hr
  have hb : Blf (Lib.bytesWorld w 5 ⟨l.toArray⟩) w.heap.size 5 (Lib.bytesCells w 5 ⟨l.toArray⟩) := Lib.bytesWorld_at_new _ _ _
  refine ⟨_, _, _, hr, hb, fun i x hx => ?_, grownCap_ge _ _ _ _, grownCap_le_maxLen _ _ _ _ (by unfold maxLen; omega), ⟨rfl, rfl, rfl, by rw [Lib.bytesWorld_size]; omega, fun k hk _ => Lib.bytesWorld_at_old _ _ _ _ hk⟩, Lib.bytesWorld_size _ _ _⟩
  have hi := (List.getElem?_eq_some_iff.1 hx).1
  rw [← hb.cell i, Lib.bytesWorld_cell _ _ _ _ (by rw [hs]; exact hi)]
  simp [List.getD_eq_getElem?_getD, hx]
set_option maxRecDepth 20000 in
set_option maxHeartbeats 2000000 in
theorem lower_any (l : List UInt8) (w : World) (hl : l.length ≤ 1099511627776) :
    Calls Tryz.prog 176 #[str l] w fun e w' => e = .returned (str (lowerS l)) ∧ Fr (fun _ => False) w w' := by
  obtain ⟨c, w1, cs0, hrun, hB, hcs, hlc, hcm, F1, hs1⟩ := blf_of_str w l hl
  obtain ⟨z, hz⟩ : ∃ z, z = w.heap.size := ⟨_, rfl⟩
  rw [← hz] at hrun hB
  have HZ := Lib.hid hz
  have HB := Lib.hid hB
  have HF1 := Lib.hid F1
  have HCS := Lib.hid hcs
  have HLC := Lib.hid hlc
  have HCMX := Lib.hid hcm
  clear hB F1 hcs hz hs1 hlc hcm
  go_enter Tryz.func176, Tryz.ntmps176
  go_wp2_with fail
  go_loopg [10] l.length (fun g i wr => ∃ (j : Nat) (cs : Array Value), g = l.length - j ∧ j ≤ l.length ∧ i = .int .i64 j ∧ Blf wr z 5 cs ∧ (∀ (i : Nat) (x : UInt8), (lowerS (l.take j) ++ l.drop j)[i]? = some x → cs[i]? = some (Value.int .u8 x.toNat)) ∧ Fr (fun _ => False) w wr)
  case atStart => exact ⟨0, cs0, rfl, Nat.zero_le _, rfl, HB.out, by simpa [lowerS] using HCS.out, HF1.out⟩
  case round =>
    obtain ⟨j, cs, hg, hj, rfl, hBr, hcr, F⟩ := hrel
    have HG := Lib.hid hg
    have HBR := Lib.hid hBr
    have HCR := Lib.hid hcr
    have HF := Lib.hid F
    clear hg hBr hcr F hrun HB HCS
    by_cases hjl : j < l.length
    · obtain ⟨x, hx⟩ : ∃ x, l[j]? = some x := ⟨_, List.getElem?_eq_getElem hjl⟩
      have ec := HCR.out j x (low_at hx)
      have hjc := (Array.getElem?_eq_some_iff.1 ec).1
      have e1 : wr.cell? ⟨z, j, none⟩ = some (.int .u8 x.toNat) := (Blf.cell HBR.out j).trans ec
      have f1 := Blf.frozen HBR.out hjc
      have HX := Lib.hid hx
      have r1 : (0 : Int) ≤ (j : Int) := by omega
      have r2 : (j : Int) < (l.length : Int) := by omega
      have hsm : IntKind.u8.wrap (smallS (x.toNat : Int)) = ((lowB x).toNat : Int) := by
        rw [lowB_toNat]
        have := x.toNat_lt
        unfold smallS
        split
        · rw [if_pos (by omega)]
          simp [IntKind.wrap, IntKind.signed, IntKind.bits]
          omega
        · rw [if_neg (by omega)]
          simp [IntKind.wrap, IntKind.signed, IntKind.bits]
          omega
      have HSM := Lib.hid (small_any (x.toNat : Int) wr)
      generalize smallS (x.toNat : Int) = sm at *
      have HBN := Lib.hid (Blf.set HBR.out j (.int .u8 (lowB x).toNat))
      have HFN := Lib.hid (HF.out.trans' (Fr.setCell (S := fun k => k = z) (p := ⟨z, j, none⟩) (Fr.refl wr) (fun _ => rfl) (.int .u8 (lowB x).toNat)) (fun i hi e => by have := HZ.out; omega))
      have HCN := Lib.hid (show ∀ (i : Nat) (y : UInt8), (lowerS (l.take (j + 1)) ++ l.drop (j + 1))[i]? = some y → (cs.setIfInBounds j (Value.int .u8 (lowB x).toNat))[i]? = some (Value.int .u8 y.toNat) from fun i y hy => by
        rw [← low_take HX.out] at hy
        by_cases hij : i = j
        · subst hij
          rw [List.getElem?_set_self (by rw [lowMix_len]; exact hjl)] at hy
          simp only [Option.some.injEq] at hy
          subst hy
          rw [Array.getElem?_setIfInBounds_self_of_lt hjc]
        · rw [List.getElem?_set_ne (fun e => hij e.symm)] at hy
          rw [Array.getElem?_setIfInBounds_ne (fun e => hij e.symm)]
          exact HCR.out i y hy)
      have hx256 : x.toNat < 256 := x.toNat_lt
      clear hx ec hjc
      generalize (lowB x).toNat = m at *
      generalize x.toNat = n at *
      have HWR := Lib.hid hsm
      clear hsm
      go_wp2_with fail
      refine HSM.out.mono ?_
      rintro e w2 ⟨rfl, rfl⟩
      have hsm := HWR.out
      go_wp2_with fail
      go_roundg (l.length - (j + 1))
      case measure => rw [HG.out]; omega
      case rel => exact ⟨j + 1, _, rfl, by omega, by go_num, HBN.out, HCN.out, HFN.out⟩
    · obtain rfl : j = l.length := by omega
      have hcr := HCR.out
      rw [List.drop_length, List.append_nil, List.take_length] at hcr
      have HS := Lib.hid (str_of (Blf.bytes HBR.out (l := lowerS l) (n := l.length) (c := c) (lower_len l).symm (by rw [lower_len]; exact HLC.out) HCMX.out hcr))
      have hsr := HS.out
      clear hcr
      go_wp2_with fail
      go_ret
      exact ⟨rfl, HF.out⟩
set_option maxRecDepth 20000 in
set_option maxHeartbeats 4000000 in
theorem label_any (l : List UInt8) (w : World) (hl : l.length ≤ 1099511627776) :
    Calls Tryz.prog 175 #[str l] w fun e w' => e = .returned (.bool (labelB l)) ∧ Fr (fun _ => False) w w' := by
  have hs : (ByteArray.mk l.toArray).size = l.length := str_size l
  have hb : labelB l = (decide (1 ≤ l.length ∧ l.length ≤ 63) && (lowerS l).all labelC) := rfl
  have HB := Lib.hid hb
  clear hb
  rcases Nat.lt_or_ge l.length 1 with h1 | h1
  · have q1 : decide ((l.length : Int) < 1) = true := decide_eq_true (by omega)
    have q2 : (l.length : Int) < 1 := by omega
    go_enter Tryz.func175, Tryz.ntmps175
    go_wp2_with fail
    go_ret
    exact ⟨by rw [HB.out, decide_eq_false (by omega), Bool.false_and]; rfl, Fr.refl _⟩
  have q1 : decide ((l.length : Int) < 1) = false := decide_eq_false (by omega)
  have q2 : ¬ (l.length : Int) < 1 := by omega
  rcases Nat.lt_or_ge 63 l.length with h2 | h2
  · have q3 : decide ((63 : Int) < (l.length : Int)) = true := decide_eq_true (by omega)
    have q4 : (63 : Int) < (l.length : Int) := by omega
    go_enter Tryz.func175, Tryz.ntmps175
    go_wp2_with fail
    go_ret
    exact ⟨by rw [HB.out, decide_eq_false (by omega), Bool.false_and]; rfl, Fr.refl _⟩
  have q3 : decide ((63 : Int) < (l.length : Int)) = false := decide_eq_false (by omega)
  have q4 : ¬ (63 : Int) < (l.length : Int) := by omega
  have HL := Lib.hid (lower_any l w hl)
  rw [decide_eq_true (show 1 ≤ l.length ∧ l.length ≤ 63 from ⟨h1, h2⟩), Bool.true_and] at HB
  have hll := lower_len l
  obtain ⟨m, hm⟩ : ∃ m, m = lowerS l := ⟨_, rfl⟩
  rw [← hm] at HL HB hll
  clear hm
  go_enter Tryz.func175, Tryz.ntmps175
  go_wp2_with fail
  refine HL.out.mono ?_
  rintro e w1 ⟨rfl, F1⟩
  obtain ⟨cp, w2, hcv, hbv, FC, -⟩ := bytes_of_str w1 m (by omega)
  have HV := Lib.hid hbv
  have HF := Lib.hid (F1.trans FC)
  clear F1 FC hbv HL
  obtain ⟨p, hp⟩ : ∃ p : Option Addr, p = some ⟨w1.heap.size, 0, none⟩ := ⟨_, rfl⟩
  rw [← hp] at hcv HV
  clear hp
  go_wp2_with fail
  go_loopg [17] m.length (fun g i wr => ∃ j : Nat, g = m.length - j ∧ j ≤ m.length ∧ i = .int .i64 j ∧ (∀ c ∈ m.take j, labelC c = true) ∧ wr = w2)
  case atStart => exact ⟨0, rfl, Nat.zero_le _, rfl, by simp, rfl⟩
  case round =>
    obtain ⟨j, hg, hj, rfl, hall, rfl⟩ := hrel
    have HG := Lib.hid hg
    have HA := Lib.hid hall
    clear hg hall hcv
    by_cases hjl : j < m.length
    · obtain ⟨a0, c0, he, -, -, hx⟩ := HV.out.form
      simp only [Value.slice.injEq, true_and] at he
      obtain ⟨rfl, rfl⟩ := he
      obtain ⟨k, o, rfl, hy⟩ := hx (by omega)
      obtain ⟨c, hc1⟩ : ∃ c, m[j]? = some c := ⟨_, List.getElem?_eq_getElem hjl⟩
      have e1 := hy j c hc1
      have HC := Lib.hid hc1
      have r1 : (0 : Int) ≤ (j : Int) := by omega
      have r2 : (j : Int) < (m.length : Int) := by omega
      clear hx hy hc1
      have hcl : labelC c = decide ((97 ≤ c.toNat ∧ c.toNat ≤ 122) ∨ (48 ≤ c.toNat ∧ c.toNat ≤ 57) ∨ c.toNat = 45 ∨ c.toNat = 95) := rfl
      have HCL := Lib.hid hcl
      have HCM := Lib.hid (List.mem_of_getElem? HC.out)
      clear hcl
      generalize c.toNat = n at *
      have hcase : (97 ≤ n ∧ n ≤ 122) ∨ 122 < n ∨ (48 ≤ n ∧ n ≤ 57) ∨ n < 48 ∨ (57 < n ∧ n < 97) := by omega
      have fin : ∀ (hd : ¬ labelC c = true), m.all labelC = false := fun hd => List.all_eq_false.2 ⟨c, HCM.out, hd⟩
      have FIN := Lib.hid fin
      have nxt : ∀ (hd : labelC c = true), ∀ x ∈ m.take (j + 1), labelC x = true := fun hd x hx => by
        rw [List.take_add_one, HC.out] at hx
        rcases List.mem_append.1 hx with h | h
        · exact HA.out x h
        · simp at h
          rw [h]
          exact hd
      have NXT := Lib.hid nxt
      clear fin nxt
      rcases hcase with h | h | h | h | h
      · have d1 : (97 : Int) ≤ (n : Int) := by omega
        have d2 : (n : Int) ≤ 122 := by omega
        have HN := Lib.hid (NXT.out (by rw [HCL.out, decide_eq_true (by omega)]))
        go_wp2_with fail
        go_roundg (m.length - (j + 1))
        case measure => rw [HG.out]; omega
        case rel => exact ⟨j + 1, rfl, by omega, by go_num, HN.out, rfl⟩
      · have d1 : (97 : Int) ≤ (n : Int) := by omega
        have d2 : ¬ (n : Int) ≤ 122 := by omega
        have d3 : (48 : Int) ≤ (n : Int) := by omega
        have d4 : ¬ (n : Int) ≤ 57 := by omega
        have d5 : ((n : Int) == 45) = false := beq_eq_false_iff_ne.2 (by omega)
        have d6 : ((n : Int) == 95) = false := beq_eq_false_iff_ne.2 (by omega)
        have HN := Lib.hid (FIN.out (by rw [HCL.out, decide_eq_false (by omega)]; exact Bool.false_ne_true))
        go_wp2_with fail
        go_ret
        exact ⟨by rw [HB.out, HN.out]; rfl, HF.out⟩
      · have d1 : ¬ (97 : Int) ≤ (n : Int) := by omega
        have d3 : (48 : Int) ≤ (n : Int) := by omega
        have d4 : (n : Int) ≤ 57 := by omega
        have HN := Lib.hid (NXT.out (by rw [HCL.out, decide_eq_true (by omega)]))
        go_wp2_with fail
        go_roundg (m.length - (j + 1))
        case measure => rw [HG.out]; omega
        case rel => exact ⟨j + 1, rfl, by omega, by go_num, HN.out, rfl⟩
      · have d1 : ¬ (97 : Int) ≤ (n : Int) := by omega
        have d3 : ¬ (48 : Int) ≤ (n : Int) := by omega
        have d6 : ((n : Int) == 95) = false := beq_eq_false_iff_ne.2 (by omega)
        by_cases h45 : n = 45
        · have d5 : ((n : Int) == 45) = true := by rw [h45]; rfl
          have HN := Lib.hid (NXT.out (by rw [HCL.out, decide_eq_true (by omega)]))
          clear h45
          go_wp2_with fail
          go_roundg (m.length - (j + 1))
          case measure => rw [HG.out]; omega
          case rel => exact ⟨j + 1, rfl, by omega, by go_num, HN.out, rfl⟩
        · have d5 : ((n : Int) == 45) = false := beq_eq_false_iff_ne.2 (by omega)
          have HN := Lib.hid (FIN.out (by rw [HCL.out, decide_eq_false (by omega)]; exact Bool.false_ne_true))
          go_wp2_with fail
          go_ret
          exact ⟨by rw [HB.out, HN.out]; rfl, HF.out⟩
      · have d1 : ¬ (97 : Int) ≤ (n : Int) := by omega
        have d3 : (48 : Int) ≤ (n : Int) := by omega
        have d4 : ¬ (n : Int) ≤ 57 := by omega
        have d5 : ((n : Int) == 45) = false := beq_eq_false_iff_ne.2 (by omega)
        by_cases h95 : n = 95
        · have d6 : ((n : Int) == 95) = true := by rw [h95]; rfl
          have HN := Lib.hid (NXT.out (by rw [HCL.out, decide_eq_true (by omega)]))
          clear h95
          go_wp2_with fail
          go_roundg (m.length - (j + 1))
          case measure => rw [HG.out]; omega
          case rel => exact ⟨j + 1, rfl, by omega, by go_num, HN.out, rfl⟩
        · have d6 : ((n : Int) == 95) = false := beq_eq_false_iff_ne.2 (by omega)
          have HN := Lib.hid (FIN.out (by rw [HCL.out, decide_eq_false (by omega)]; exact Bool.false_ne_true))
          go_wp2_with fail
          go_ret
          exact ⟨by rw [HB.out, HN.out]; rfl, HF.out⟩
    · have hall := HA.out
      rw [List.take_of_length_le (by omega)] at hall
      have HN := Lib.hid (show m.all labelC = true from List.all_eq_true.2 hall)
      clear hall
      go_wp2_with fail
      go_ret
      exact ⟨by rw [HB.out, HN.out]; rfl, HF.out⟩
theorem trimDot_list (l : List UInt8) : Lib.trimSuffix l [46] = dotS l := by
  unfold Lib.trimSuffix dotS Lib.hasSuffix
  have h : ([46] : List UInt8).isSuffixOf l = true ↔ l.getLast? = some 46 := by
    rw [List.isSuffixOf_iff_suffix]
    constructor
    · rintro ⟨t, rfl⟩
      simp
    · intro h
      obtain ⟨t, rfl⟩ := List.getLast?_eq_some_iff.1 h
      exact ⟨t, rfl⟩
  by_cases hd : l.getLast? = some 46
  · rw [if_pos (h.2 hd), if_pos hd, List.dropLast_eq_take]
    rfl
  · rw [if_neg (fun e => hd (h.1 e)), if_neg hd]
theorem trimDot_any (l : List UInt8) (w : World) (hl : l.length ≤ 1099511627776) :
    Calls Tryz.prog 173 #[str l, str [46]] w fun e w' => e = .returned (str (dotS l)) ∧ w' = w := by
  refine (Go.Proofs.Tryz.strings_TrimSuffix ⟨l.toArray⟩ ⟨[46].toArray⟩ w (by rw [str_size]; omega)).mono ?_
  rintro e w' ⟨rfl, rfl⟩
  refine ⟨?_, rfl⟩
  rw [← trimDot_list]
def hostV (r : Option (List UInt8)) : Value := match r with | some h => .tuple #[str h, .int .i64 0] | none => .tuple #[str [], .int .i64 6]
set_option maxRecDepth 20000 in
set_option maxHeartbeats 2000000 in
theorem host_any (l : List UInt8) (w : World) (hl : l.length ≤ 1000000000) (hE : Env w) :
    Calls Tryz.prog 136 #[str l] w fun e w' => e = .returned (hostV (hostS l)) ∧ Fr (fun _ => False) w w' := by
  have hdl := dot_len l
  have hh : hostS l = if 253 < (dotS l).length then none else if (cutAt 46 (dotS l)).all labelB then some (lowerS (dotS l)) else none := rfl
  have HH := Lib.hid hh
  have HT := Lib.hid (trimDot_any l w (by omega))
  have hE0 := Lib.hid hE
  clear hh hE
  generalize dotS l = d at *
  have hs : (ByteArray.mk d.toArray).size = d.length := str_size d
  rcases Nat.lt_or_ge 253 d.length with h1 | h1
  · have q1 : (253 : Int) < (d.length : Int) := by omega
    rw [if_pos h1] at HH
    go_enter Tryz.func136, Tryz.ntmps136
    go_wp2_with fail
    refine HT.out.mono ?_
    rintro e w1 ⟨rfl, rfl⟩
    go_wp2_with fail
    refine bodyPost_ret (v := .tuple #[str [], .int .i64 6]) (by simp [results, Tryz.results136, go_sem]) rfl ⟨?_, Fr.refl _⟩
    rw [HH.out]
    rfl
  have q1 : ¬ (253 : Int) < (d.length : Int) := by omega
  rw [if_neg (by omega)] at HH
  have HSP := Lib.hid (strSplit_any d 46 w hE0.out (by omega))
  have hks : ∀ k ∈ cutAt 46 d, k.length ≤ d.length := by
    intro k hk
    have : ∀ (l : List UInt8), ∀ k ∈ cutAt 46 l, k.length ≤ l.length := by
      intro l
      induction l with
      | nil => intro k hk; simp [cutAt] at hk; simp [hk]
      | cons x t ih =>
        intro k hk
        unfold cutAt at hk
        split at hk
        · rcases List.mem_cons.1 hk with rfl | hk
          · simp
          · have := ih k hk
            simp only [List.length_cons]
            omega
        · split at hk
          · simp at hk; simp [hk]
          · rename_i h r hc
            rcases List.mem_cons.1 hk with rfl | hk
            · have := ih h (by rw [hc]; simp)
              simp only [List.length_cons]
              omega
            · have := ih k (by rw [hc]; simp [hk])
              simp only [List.length_cons]
              omega
    exact this d k hk
  have HKS := Lib.hid hks
  have hcl := (cutAt_len 46 d).1
  clear hks
  generalize cutAt 46 d = ks at *
  go_enter Tryz.func136, Tryz.ntmps136
  go_wp2_with fail
  refine HT.out.mono ?_
  rintro e w1 ⟨rfl, rfl⟩
  go_wp2_with fail
  refine HSP.out.mono ?_
  rintro e w2 ⟨rfl, hst, F2⟩
  have HST := Lib.hid hst
  have HF2 := Lib.hid F2
  obtain ⟨p, hp⟩ : ∃ p : Option Addr, p = some ⟨w1.heap.size, 0, none⟩ := ⟨_, rfl⟩
  rw [← hp] at HST ⊢
  clear hst F2 hp HSP
  go_wp2_with fail
  go_loopg [14] ks.length (fun g i wr => ∃ j : Nat, g = ks.length - j ∧ j ≤ ks.length ∧ i = .int .i64 j ∧ (∀ c ∈ ks.take j, labelB c = true) ∧ Fr (fun _ => False) w2 wr)
  case atStart => exact ⟨0, rfl, Nat.zero_le _, rfl, by simp, Fr.refl _⟩
  case round =>
    obtain ⟨j, hg, hj, rfl, hall, F⟩ := hrel
    have HG := Lib.hid hg
    have HA := Lib.hid hall
    have HF := Lib.hid F
    clear hg hall
    by_cases hjl : j < ks.length
    · obtain ⟨a0, c0, he, -, -, hx⟩ := Strs.form (HST.out.old F)
      simp only [Value.slice.injEq, true_and] at he
      obtain ⟨rfl, rfl⟩ := he
      obtain ⟨b, o, rfl, hy⟩ := hx (by omega)
      obtain ⟨k, hk⟩ : ∃ k, ks[j]? = some k := ⟨_, List.getElem?_eq_getElem hjl⟩
      have e1 := hy j k hk
      have HK := Lib.hid hk
      have hkl := HKS.out k (List.mem_of_getElem? hk)
      have r1 : (0 : Int) ≤ (j : Int) := by omega
      have r2 : (j : Int) < (ks.length : Int) := by omega
      have HLB := Lib.hid (label_any k wr (by omega))
      obtain ⟨bl, hbl⟩ : ∃ bl, bl = labelB k := ⟨_, rfl⟩
      rw [← hbl] at HLB
      have HBL := Lib.hid hbl
      clear hx hy hk F hbl
      go_wp2_with fail
      refine HLB.out.mono ?_
      rintro e w3 ⟨rfl, F3⟩
      have HF3 := Lib.hid (HF.out.trans F3)
      clear F3 HF HLB e1
      cases bl with
      | false =>
        have hf : ks.all labelB = false := List.all_eq_false.2 ⟨k, List.mem_of_getElem? HK.out, by rw [← HBL.out]; exact Bool.false_ne_true⟩
        rw [hf] at HH
        clear hf
        go_wp2_with fail
        refine bodyPost_ret (v := .tuple #[str [], .int .i64 6]) (by simp [results, Tryz.results136, go_sem]) rfl ⟨?_, HF2.out.trans HF3.out⟩
        rw [HH.out]
        rfl
      | true =>
        have HN := Lib.hid (show ∀ x ∈ ks.take (j + 1), labelB x = true from fun x hx => by
          rw [List.take_add_one, HK.out] at hx
          rcases List.mem_append.1 hx with h | h
          · exact HA.out x h
          · simp at h
            rw [h]
            exact HBL.out.symm)
        go_wp2_with fail
        go_roundg (ks.length - (j + 1))
        case measure => rw [HG.out]; omega
        case rel => exact ⟨j + 1, rfl, by omega, by go_num, HN.out, HF3.out⟩
    · have hall := HA.out
      rw [List.take_of_length_le (by omega)] at hall
      rw [if_pos (List.all_eq_true.2 hall)] at HH
      have HLW := Lib.hid (lower_any d wr (by omega))
      clear hall F
      go_wp2_with fail
      refine HLW.out.mono ?_
      rintro e w3 ⟨rfl, F3⟩
      have HF3 := Lib.hid ((HF2.out.trans HF.out).trans F3)
      clear F3
      go_wp2_with fail
      refine bodyPost_ret (v := .tuple #[str (lowerS d), .int .i64 0]) (by simp [results, Tryz.results136, go_sem]) rfl ⟨?_, HF3.out⟩
      rw [HH.out]
      rfl
theorem host_some {l h : List UInt8} (hh : hostS l = some h) (w : World) (hl : l.length ≤ 1000000000) (hE : Env w) :
    Calls Tryz.prog 136 #[str l] w fun e w' => e = .returned (.tuple #[str h, .int .i64 0]) ∧ Fr (fun _ => False) w w' :=
  (host_any l w hl hE).mono (by rintro e w' ⟨rfl, F⟩; rw [hh]; exact ⟨rfl, F⟩)
theorem host_none {l : List UInt8} (hh : hostS l = none) (w : World) (hl : l.length ≤ 1000000000) (hE : Env w) :
    Calls Tryz.prog 136 #[str l] w fun e w' => e = .returned (.tuple #[str [], .int .i64 6]) ∧ Fr (fun _ => False) w w' :=
  (host_any l w hl hE).mono (by rintro e w' ⟨rfl, F⟩; rw [hh]; exact ⟨rfl, F⟩)
theorem lastIdx_list (c : UInt8) (l : List UInt8) : ∀ k, k ≤ l.length → Lib.lastIdx ⟨l.toArray⟩ (c.toNat : Int) k = lastTo c l k
  | 0, _ => rfl
  | k + 1, h => by
    unfold Lib.lastIdx lastTo
    rw [lastIdx_list c l k (by omega)]
    have hk : l[k]? = some l[k] := List.getElem?_eq_getElem (by omega)
    have e : (ByteArray.mk l.toArray).data[k]! = l[k] := by
      show l.toArray[k]! = l[k]
      rw [getElem!_pos l.toArray k (by simp; omega)]
      simp
    rw [e, hk]
    by_cases hc : l[k] = c
    · rw [if_pos (by rw [hc]), if_pos (by rw [hc])]
    · rw [if_neg (fun h => hc (UInt8.toNat_inj.1 (by omega))), if_neg (fun h => hc (by simpa using h))]
theorem lastByte_any (l : List UInt8) (c : UInt8) (w : World) (hl : l.length ≤ 1099511627776) :
    Calls Tryz.prog 178 #[str l, .int .u8 c.toNat] w fun e w' => e = .returned (.int .i64 (lastS c l)) ∧ w' = w := by
  refine (Go.Proofs.Tryz.strings_LastIndexByte ⟨l.toArray⟩ (c.toNat : Int) (by rw [str_size]; omega) w).mono ?_
  rintro e w' ⟨rfl, rfl⟩
  refine ⟨?_, rfl⟩
  unfold Lib.lastIndexByte
  rw [str_size, lastIdx_list c l _ (Nat.le_refl _)]
  rfl
set_option maxRecDepth 20000 in
set_option maxHeartbeats 1000000 in
theorem mail_any (l : List UInt8) (w : World) (hl : l.length ≤ 1000000000) :
    Calls Tryz.prog 138 #[str l] w fun e w' => e = .returned (str (mailS l)) ∧ Fr (fun _ => False) w w' := by
  have HI := Lib.hid (lastByte_any l 64 w (by omega))
  have hm : mailS l = if lastS 64 l < 0 then l else l.take (lastS 64 l).toNat ++ lowerS (l.drop (lastS 64 l).toNat) := rfl
  obtain ⟨h1, -, h3⟩ := lastTo_lt 64 l l.length
  rw [show lastTo 64 l l.length = lastS 64 l from rfl] at h1 h3
  have HM := Lib.hid hm
  clear hm
  generalize lastS 64 l = x at *
  by_cases hx : x < 0
  · rw [if_pos hx] at HM
    go_enter Tryz.func138, Tryz.ntmps138
    go_wp2_with fail
    refine HI.out.mono ?_
    rintro e w1 ⟨rfl, rfl⟩
    go_wp2_with fail
    go_ret
    exact ⟨by rw [HM.out]; rfl, Fr.refl _⟩
  · obtain ⟨n, rfl⟩ : ∃ n : Nat, x = n := ⟨x.toNat, by omega⟩
    rw [if_neg hx, Int.toNat_natCast] at HM
    have hn : n ≤ l.length := by omega
    have s1 := fun w => str_to l n hn w
    have s2 := fun w => str_from l n hn w
    have HL := Lib.hid (fun w => lower_any (l.drop n) w (by rw [List.length_drop]; omega))
    have z1 : (ByteArray.mk (l.take n).toArray).size = (l.take n).length := str_size _
    have z2 : (ByteArray.mk (lowerS (l.drop n)).toArray).size = (lowerS (l.drop n)).length := str_size _
    have z3 : (lowerS (l.drop n)).length ≤ 1000000000 := by rw [lower_len, List.length_drop]; omega
    have z4 : (l.take n).length ≤ 1000000000 := by rw [List.length_take]; omega
    have z5 : ¬ 9223372036854775807 < (l.take n).length + (lowerS (l.drop n)).length := by omega
    generalize lowerS (l.drop n) = lo at *
    generalize l.take n = fr at *
    generalize l.drop n = dr at *
    go_enter Tryz.func138, Tryz.ntmps138
    go_wp2_with fail
    refine HI.out.mono ?_
    rintro e w1 ⟨rfl, rfl⟩
    go_upto_region 4 with fail
    go_region_held3 (fun w' => True) (trivial) (first
      | (go_at_call 176; refine (HL.out _).mono ?_; rintro e w2 ⟨rfl, F2⟩))
    all_goals
      have HF2 := Lib.hid ((Fr.refl (S := fun _ => False) w1).drew.trans F2)
      go_wp2_with fail
      go_ret
      exact ⟨by rw [HM.out]; exact congrArg (fun x : ByteArray => Ending.returned (Value.string x)) (ba_cat fr lo), HF2.out⟩
end Go.Proofs.YtacekpdjapgfcaaGreatDoor

namespace Go.Q
open Go Go.RowKit
theorem host_len {l h : List UInt8} (hh : hostS l = some h) : h.length ≤ l.length := by
  unfold hostS at hh
  split at hh
  · cases hh
  split at hh
  · simp only [Option.some.injEq] at hh
    subst hh
    rw [lower_len]
    exact dot_len l
  · cases hh
theorem mail_len (l : List UInt8) : (mailS l).length ≤ l.length := by
  unfold mailS
  split
  · omega
  · rw [List.length_append, lower_len, List.length_take, List.length_drop]
    omega
theorem genMean_len {g : Gen} (hf : fewG g) (hok : g.k = 4 → nameOk g.n = true) : (meanS g).length ≤ 1000000000000 := by
  obtain ⟨f1, f2⟩ := hf
  unfold meanS
  split
  · rename_i h4
    obtain ⟨h1, h2⟩ := name_rdns (hok h4)
    have hkl : ∀ k ∈ g.n.map rdnKeyS, k.length ≤ 2560017616 := fun k hk => by
      obtain ⟨r, hr, rfl⟩ := List.mem_map.1 hk
      exact rdnKey_len (f2 r hr) (h2 r hr)
    have h3 := join_len 47 2560017616 _ hkl
    rw [List.length_map] at h3
    have h4 : nameKeyS g.n = Lib.join (g.n.map rdnKeyS) [47] := rfl
    rw [h4]
    have := Nat.mul_le_mul_right (2560017616 + 1) h1
    omega
  split
  · split
    · rename_i h hh
      have := host_len hh
      omega
    · have := hexS_len g.b
      simp only [List.length_cons]
      omega
  split
  · have := mail_len g.b
    omega
  · have := hexS_len g.b
    omega
end Go.Q
namespace Go.Proofs.YtacekpdjapgfcaaGreatDoor
open Go Go.RowKit Go.Q
set_option linter.unusedSimpArgs false
set_option maxRecDepth 20000 in
set_option maxHeartbeats 4000000 in
theorem meaning_any (u : Value) (g : Gen) (w : World) (h : GenAt w u g) (hf : fewG g) (hok : g.k = 4 → nameOk g.n = true) (hE : Env w) :
    Calls Tryz.prog 92 #[u] w fun e w' => e = .returned (str (meanS g)) ∧ Fr (fun _ => False) w w' := by
  obtain ⟨ab, cb, an, cn, rfl, hb, hn⟩ := h.form
  obtain ⟨k, b, n⟩ := g
  obtain ⟨f1, f2⟩ := hf
  simp only at hb hn f1 f2 hok ⊢
  have F0 : Fr (fun _ => False) w (w.alloc (.cells #[.int .i64 k, .slice ab b.length cb, .slice an n.length cn] 42)) := (Fr.refl w).alloc _
  have B := Blk.new w 42 #[.int .i64 k, .slice ab b.length cb, .slice an n.length cn]
  obtain ⟨z, hz⟩ : ∃ z, z = w.heap.size := ⟨_, rfl⟩
  rw [← hz] at B
  have HZ := Lib.hid hz
  have HB := Lib.hid (hb.old F0)
  have HN := Lib.hid (hn.old F0)
  have HE := Lib.hid (hE.old F0)
  have HF0 := Lib.hid F0
  have HF2 := Lib.hid f2
  have HOK := Lib.hid hok
  have hg : meanS ⟨k, b, n⟩ = if k = 4 then nameKeyS n else if k = 2 then (match hostS b with | some h => h | none => 35 :: hexS b) else if k = 1 then mailS b else hexS b := rfl
  have HG := Lib.hid hg
  clear h hb hn hz hE F0 f2 hg hok
  have hk : k = 4 ∨ k = 2 ∨ k = 1 ∨ ((k == 4) = false ∧ (k == 2) = false ∧ (k == 1) = false) := by
    simp only [beq_eq_false_iff_ne]
    omega
  rcases hk with rfl | rfl | rfl | ⟨k4, k2, k1⟩
  · rw [if_pos rfl] at HG
    go_enter Tryz.func92, Tryz.ntmps92
    go_upto_region 1 with fail
    rw [← HZ.out]
    generalize (w.alloc (.cells #[.int .i64 4, .slice ab b.length cb, .slice an n.length cn] 42)) = w0 at *
    have e0 := B.cell 0
    have e2 := B.cell 2
    simp only [List.getElem?_toArray, List.getElem?_cons_succ, List.getElem?_cons_zero] at e0 e2
    go_wp2_with fail
    refine (nameKey_any _ n w0 HN.out HF2.out (HOK.out (by first | rfl | trivial)) HE.out).mono ?_
    rintro e w1 ⟨rfl, F1⟩
    go_wp2_with fail
    go_ret
    exact ⟨by rw [HG.out]; rfl, HF0.out.trans F1⟩
  · rw [if_neg (by decide), if_pos rfl] at HG
    have HS := Lib.hid (str_of HB.out)
    cases hh : hostS b with
    | some ho =>
      have HH := Lib.hid (host_some hh _ (by omega) HE.out)
      rw [hh] at HG
      clear hh
      go_enter Tryz.func92, Tryz.ntmps92
      go_upto_region 1 with fail
      rw [← HZ.out]
      generalize (w.alloc (.cells #[.int .i64 2, .slice ab b.length cb, .slice an n.length cn] 42)) = w0 at *
      have e0 := B.cell 0
      have e1 := B.cell 1
      simp only [List.getElem?_toArray, List.getElem?_cons_succ, List.getElem?_cons_zero] at e0 e1
      have hsr := HS.out
      go_wp2_with fail
      refine HH.out.mono ?_
      rintro e w1 ⟨rfl, F1⟩
      go_wp2_with fail
      go_ret
      exact ⟨by rw [HG.out]; rfl, HF0.out.trans F1⟩
    | none =>
      have HH := Lib.hid (host_none hh _ (by omega) HE.out)
      rw [hh] at HG
      clear hh
      have hxl := hexS_len b
      have hxs : (ByteArray.mk (hexS b).toArray).size = (hexS b).length := str_size _
      have HX := Lib.hid (fun w1 (h : Bytes w1 (.slice ab b.length cb) b) => hex_any _ b w1 h (by omega))
      generalize hexS b = hb at *
      go_enter Tryz.func92, Tryz.ntmps92
      go_upto_region 1 with fail
      rw [← HZ.out]
      generalize (w.alloc (.cells #[.int .i64 2, .slice ab b.length cb, .slice an n.length cn] 42)) = w0 at *
      have HBL := Lib.hid B
      have e0 := B.cell 0
      have e1 := B.cell 1
      simp only [List.getElem?_toArray, List.getElem?_cons_succ, List.getElem?_cons_zero] at e0 e1
      have hsr := HS.out
      clear B
      go_wp2_with fail
      refine HH.out.mono ?_
      rintro e w1 ⟨rfl, F1⟩
      have HX1 := Lib.hid (HX.out w1 (HB.out.old F1))
      have HF1 := Lib.hid (HF0.out.trans F1)
      have B1 := HBL.out.fr F1 (fun h => h)
      clear F1 HH HS hsr e0 e1 HX HBL
      have e0 := B1.cell 0
      have e1 := B1.cell 1
      simp only [List.getElem?_toArray, List.getElem?_cons_succ, List.getElem?_cons_zero] at e0 e1
      go_wp2_with fail
      refine HX1.out.mono ?_
      rintro e w2 ⟨rfl, F2⟩
      go_wp2_with fail
      go_ret
      refine ⟨?_, HF1.out.trans F2⟩
      rw [HG.out]
      refine congrArg (fun x : ByteArray => Ending.returned (.string x)) ?_
      exact ba_cat [35] hb
  · rw [if_neg (by decide), if_neg (by decide), if_pos rfl] at HG
    have HS := Lib.hid (str_of HB.out)
    go_enter Tryz.func92, Tryz.ntmps92
    go_upto_region 1 with fail
    rw [← HZ.out]
    generalize (w.alloc (.cells #[.int .i64 1, .slice ab b.length cb, .slice an n.length cn] 42)) = w0 at *
    have e0 := B.cell 0
    have e1 := B.cell 1
    simp only [List.getElem?_toArray, List.getElem?_cons_succ, List.getElem?_cons_zero] at e0 e1
    have hsr := HS.out
    go_wp2_with fail
    refine (mail_any b w0 (by omega)).mono ?_
    rintro e w1 ⟨rfl, F1⟩
    go_wp2_with fail
    go_ret
    exact ⟨by rw [HG.out]; rfl, HF0.out.trans F1⟩
  · rw [if_neg (by simpa using k4), if_neg (by simpa using k2), if_neg (by simpa using k1)] at HG
    go_enter Tryz.func92, Tryz.ntmps92
    go_upto_region 1 with fail
    rw [← HZ.out]
    generalize (w.alloc (.cells #[.int .i64 k, .slice ab b.length cb, .slice an n.length cn] 42)) = w0 at *
    have e0 := B.cell 0
    have e1 := B.cell 1
    simp only [List.getElem?_toArray, List.getElem?_cons_succ, List.getElem?_cons_zero] at e0 e1
    go_wp2_with fail
    refine (hex_any _ b w0 HB.out (by omega)).mono ?_
    rintro e w1 ⟨rfl, F1⟩
    go_wp2_with fail
    go_ret
    exact ⟨by rw [HG.out]; rfl, HF0.out.trans F1⟩
def gkOut (g : Gen) : List UInt8 := if genOk g then genKeyS g else []
def gkErr (g : Gen) : Int := if genOk g then 0 else 1
set_option maxRecDepth 20000 in
set_option maxHeartbeats 4000000 in
theorem genKey_any (u : Value) (g : Gen) (w : World) (h : GenAt w u g) (hf : fewG g) (hE : Env w) :
    Calls Tryz.prog 42 #[u] w fun e w' => e = .returned (.tuple #[str (gkOut g), .int .i64 (gkErr g)]) ∧ Fr (fun _ => False) w w' := by
  obtain ⟨ab, cb, an, cn, rfl, hb, hn⟩ := h.form
  have F0 : Fr (fun _ => False) w (w.alloc (.cells #[.int .i64 g.k, .slice ab g.b.length cb, .slice an g.n.length cn] 42)) := (Fr.refl w).alloc _
  have B := Blk.new w 42 #[.int .i64 g.k, .slice ab g.b.length cb, .slice an g.n.length cn]
  obtain ⟨z, hz⟩ : ∃ z, z = w.heap.size := ⟨_, rfl⟩
  rw [← hz] at B
  have HZ := Lib.hid hz
  have HGA := Lib.hid (h.old F0)
  have HE := Lib.hid (hE.old F0)
  have HF0 := Lib.hid F0
  have HFW := Lib.hid hf
  have HR := Lib.hid (genRight_any _ g _ (h.old F0) hf)
  have HM := Lib.hid (fun (hok : g.k = 4 → nameOk g.n = true) w1 (F : Fr (fun _ => False) (w.alloc (.cells #[.int .i64 g.k, .slice ab g.b.length cb, .slice an g.n.length cn] 42)) w1) => meaning_any _ g w1 ((h.old F0).old F) hf hok ((hE.old F0).old F))
  have HP := Lib.hid (fun w1 (F : Fr (fun _ => False) (w.alloc (.cells #[.int .i64 g.k, .slice ab g.b.length cb, .slice an g.n.length cn] 42)) w1) => ((hE.old F0).old F).pows)
  have hk : genKeyS g = Lib.itoa g.k ++ meanS g := rfl
  have HK := Lib.hid hk
  have hgk : genOk g = true → 0 ≤ g.k ∧ g.k ≤ 8 := gen_kind
  have h4 : genOk g = true → g.k = 4 → nameOk g.n = true := fun h1 h2 => by
    unfold genOk at h1
    rw [if_pos h2, Bool.and_eq_true] at h1
    exact h1.2
  have H4 := Lib.hid h4
  have HKB := Lib.hid hgk
  clear h hb hn hz hE F0 hf hk h4 hgk
  have hcase : genOk g = false ∨ genOk g = true := by cases genOk g <;> simp
  rcases hcase with hok | hok
  · rw [hok] at HR
    have HO := Lib.hid (show gkOut g = [] by unfold gkOut; rw [hok]; rfl)
    have HX := Lib.hid (show gkErr g = 1 by unfold gkErr; rw [hok]; rfl)
    clear hok
    go_enter Tryz.func42, Tryz.ntmps42
    go_upto_region 1 with fail
    rw [← HZ.out]
    generalize (w.alloc (.cells #[.int .i64 g.k, .slice ab g.b.length cb, .slice an g.n.length cn] 42)) = w0 at *
    have e0 := B.cell 0
    have e1 := B.cell 1
    have e2 := B.cell 2
    simp only [List.getElem?_toArray, List.getElem?_cons_succ, List.getElem?_cons_zero] at e0 e1 e2
    go_wp2_with fail
    refine HR.out.mono ?_
    rintro e w1 ⟨rfl, F1⟩
    go_wp2_with fail
    refine bodyPost_ret (v := .tuple #[str [], .int .i64 1]) (by simp [results, Tryz.results42, go_sem]) rfl ⟨?_, HF0.out.trans F1⟩
    rw [HO.out, HX.out]
  · rw [hok] at HR
    have HO := Lib.hid (show gkOut g = genKeyS g by unfold gkOut; rw [hok]; rfl)
    have HX := Lib.hid (show gkErr g = 0 by unfold gkErr; rw [hok]; rfl)
    obtain ⟨k0, k8⟩ := HKB.out hok
    have HMM := Lib.hid (HM.out (H4.out hok))
    have hil : (Lib.itoa g.k).length ≤ 100 := by have := itoa_len k0 (by omega); omega
    have z1 : (ByteArray.mk (Lib.itoa g.k).toArray).size = (Lib.itoa g.k).length := str_size _
    have z2 : (ByteArray.mk (meanS g).toArray).size = (meanS g).length := str_size _
    have hml : (meanS g).length ≤ 1000000000000 := genMean_len HFW.out (H4.out hok)
    clear hok HM H4 HKB
    obtain ⟨it, hit⟩ : ∃ it, it = Lib.itoa g.k := ⟨_, rfl⟩
    obtain ⟨me, hme⟩ : ∃ me, me = meanS g := ⟨_, rfl⟩
    have HI := Lib.hid (fun w1 (hP : Pows w1) => itoa_any g.k (by omega) (by omega) w1 hP)
    rw [← hit] at HI hil HK z1
    rw [← hme] at HMM hml HK z2
    clear hit hme
    have z5 : ¬ 9223372036854775807 < it.length + me.length := by omega
    go_enter Tryz.func42, Tryz.ntmps42
    go_upto_region 1 with fail
    rw [← HZ.out]
    generalize (w.alloc (.cells #[.int .i64 g.k, .slice ab g.b.length cb, .slice an g.n.length cn] 42)) = w0 at *
    have HB := Lib.hid B
    have e0 := B.cell 0
    have e1 := B.cell 1
    have e2 := B.cell 2
    simp only [List.getElem?_toArray, List.getElem?_cons_succ, List.getElem?_cons_zero] at e0 e1 e2
    go_wp2_with fail
    refine HR.out.mono ?_
    rintro e w1 ⟨rfl, F1⟩
    have B1 := HB.out.fr F1 (fun h => h)
    have HB1 := Lib.hid B1
    have HFW1 := Lib.hid F1
    clear B e0 e1 e2 HR HB F1
    go_upto_region 3 with fail
    replace B1 := B1.drew
    have G1 : Fr (fun _ => False) w0 w1.drew := HFW1.out.drew
    go_region_held3 (fun w' => ∀ j, w'.cell? ⟨z, j, none⟩ = (#[.int .i64 g.k, .slice ab g.b.length cb, .slice an g.n.length cn] : Array Value)[j]?) (exact B1.cell) (first
      | (go_at_call 91; refine (HI.out _ (HP.out _ G1)).mono ?_; rintro e w' ⟨rfl, F⟩; replace B1 := B1.fr F (fun h => h); replace G1 := G1.trans F; clear F)
      | (go_at_call 92; refine (HMM.out _ G1).mono ?_; rintro e w' ⟨rfl, F⟩; replace B1 := B1.fr F (fun h => h); replace G1 := G1.trans F; clear F))
    all_goals
      have HG1 := Lib.hid (HF0.out.trans G1)
      go_wp2_with fail
      refine bodyPost_ret (v := .tuple #[str (it ++ me), .int .i64 0]) (by simp [results, Tryz.results42, go_sem, ba_cat]) rfl ⟨?_, HG1.out⟩
      rw [HO.out, HX.out, HK.out]
set_option maxRecDepth 20000 in
set_option maxHeartbeats 4000000 in
theorem genSame_any (u v : Value) (g p : Gen) (w : World) (h : GenAt w u g) (hp : GenAt w v p) (hf : fewG g) (hfp : fewG p) (hE : Env w) :
    Calls Tryz.prog 31 #[u, v] w fun e w' => e = .returned (.bool (genSameS g p)) ∧ Fr (fun _ => False) w w' := by
  obtain ⟨ab, cb, an, cn, rfl, -, -⟩ := h.form
  obtain ⟨ab2, cb2, an2, cn2, rfl, -, -⟩ := hp.form
  have HGA := Lib.hid h
  have HPA := Lib.hid hp
  have HE := Lib.hid hE
  have HW1 := Lib.hid hf
  have HW2 := Lib.hid hfp
  obtain ⟨z, hz⟩ : ∃ z, z = w.heap.size := ⟨_, rfl⟩
  have B := (Blk.new w 42 #[.int .i64 g.k, .slice ab g.b.length cb, .slice an g.n.length cn]).alloc (.cells #[.int .i64 p.k, .slice ab2 p.b.length cb2, .slice an2 p.n.length cn2] 42)
  have D := Blk.new (w.alloc (.cells #[.int .i64 g.k, .slice ab g.b.length cb, .slice an g.n.length cn] 42)) 42 #[.int .i64 p.k, .slice ab2 p.b.length cb2, .slice an2 p.n.length cn2]
  have F0 : Fr (fun _ => False) w ((w.alloc (.cells #[.int .i64 g.k, .slice ab g.b.length cb, .slice an g.n.length cn] 42)).alloc (.cells #[.int .i64 p.k, .slice ab2 p.b.length cb2, .slice an2 p.n.length cn2] 42)) := ((Fr.refl w).alloc _).alloc _
  rw [World.size_alloc, ← hz] at D
  rw [← hz] at B
  have HZ := Lib.hid hz
  have HF0 := Lib.hid F0
  have hs : genSameS g p = (genOk g && genOk p && decide (genKeyS g = genKeyS p)) := rfl
  have HS := Lib.hid hs
  clear h hp hE hf hfp hz F0 hs
  go_enter Tryz.func31, Tryz.ntmps31
  go_upto_region 1 with fail
  rw [← HZ.out]
  generalize ((w.alloc (.cells #[.int .i64 g.k, .slice ab g.b.length cb, .slice an g.n.length cn] 42)).alloc (.cells #[.int .i64 p.k, .slice ab2 p.b.length cb2, .slice an2 p.n.length cn2] 42)) = w0 at *
  have HD := Lib.hid D
  have e0 := B.cell 0
  have e1 := B.cell 1
  have e2 := B.cell 2
  simp only [List.getElem?_toArray, List.getElem?_cons_succ, List.getElem?_cons_zero] at e0 e1 e2
  have HK1 := Lib.hid (genKey_any _ g w0 (HGA.out.old HF0.out) HW1.out (HE.out.old HF0.out))
  clear D
  go_wp2_with fail
  refine HK1.out.mono ?_
  rintro e w1 ⟨rfl, F1⟩
  have D1 := HD.out.fr F1 (fun h => h)
  have HF1 := Lib.hid (HF0.out.trans F1)
  clear F1 B e0 e1 e2 HK1
  have e0 := D1.cell 0
  have e1 := D1.cell 1
  have e2 := D1.cell 2
  simp only [List.getElem?_toArray, List.getElem?_cons_succ, List.getElem?_cons_zero] at e0 e1 e2
  have HK2 := Lib.hid (genKey_any _ p w1 (HPA.out.old HF1.out) HW2.out (HE.out.old HF1.out))
  go_wp2_with fail
  refine HK2.out.mono ?_
  rintro e w2 ⟨rfl, F2⟩
  have HF2 := Lib.hid (HF1.out.trans F2)
  clear F2 D1 e0 e1 e2 HK2
  have hcase : ∀ q : Gen, (genOk q = false ∧ gkErr q = 1) ∨ (genOk q = true ∧ gkErr q = 0 ∧ gkOut q = genKeyS q) := fun q => by
    cases hq : genOk q with
    | false => exact .inl ⟨rfl, by unfold gkErr; rw [hq]; rfl⟩
    | true => exact .inr ⟨rfl, by unfold gkErr; rw [hq]; rfl, by unfold gkOut; rw [hq]; rfl⟩
  rcases hcase g with ⟨g1, g2⟩ | ⟨g1, g2, g3⟩
  · rw [g1] at HS
    rw [g2]
    go_wp2_with fail
    go_ret
    exact ⟨by rw [HS.out]; rfl, HF2.out⟩
  · rcases hcase p with ⟨p1, p2⟩ | ⟨p1, p2, p3⟩
    · rw [g1, p1] at HS
      rw [g2, p2]
      go_wp2_with fail
      go_ret
      exact ⟨by rw [HS.out]; rfl, HF2.out⟩
    · rw [g1, p1] at HS
      rw [g2, p2, g3, p3]
      have HS2 := Lib.hid (show genSameS g p = decide (genKeyS g = genKeyS p) from HS.out.trans (by simp))
      clear g2 g3 p2 p3 HS
      generalize genKeyS g = kg at *
      generalize genKeyS p = kp at *
      by_cases hkk : kg = kp
      · subst hkk
        have q1 : (kg == kg) = true := by simp
        rw [decide_eq_true rfl] at HS2
        go_wp2_with fail
        go_ret
        exact ⟨by rw [HS2.out]; rfl, HF2.out⟩
      · have q1 : (kg == kp) = false := by simpa using hkk
        rw [decide_eq_false hkk] at HS2
        go_wp2_with fail
        go_ret
        exact ⟨by rw [HS2.out]; rfl, HF2.out⟩
end Go.Proofs.YtacekpdjapgfcaaGreatDoor
