/-
  Merged by program: XNameOf XNConcat XNRdnK XNSame XNTexts XR04 XR14W XR01.
-/
import Derived.Test.YtacekpdjapgfcaaGreatDoorD0ai
import Derived.Test.YtacekpdjapgfcaaGreatDoorD0af
import Derived.Lib.AppendZerosOnto
import Derived.Lib.SliceRun
import Derived.Lib.Walk
import Derived.Test.YtacekpdjapgfcaaGreatDoorD0ah
import Derived.Deep.RegionLaw
import Derived.Test.YtacekpdjapgfcaaGreatDoorD0ae
namespace Go.Q
open Go Go.RowKit
def NmRow (w : World) (base : Nat) (v : Value) (n : List (List Part)) : Prop :=
  ∃ us : List Value, w.ownsRow base 90 1 v n.length us ∧ us.length = n.length ∧ ∀ (i : Nat) (u : Value) (r : List Part), us[i]? = some u → n[i]? = some r → Kept (fun W => Attrs W u r) (fun k => v.ownBlock = some k) w
theorem NmRow.at {w : World} {base : Nat} {v : Value} {n : List (List Part)} (h : NmRow w base v n) : NameAt w v n := by
  obtain ⟨us, h1, h2, h3⟩ := h
  obtain ⟨a, cap, he, hc, hm, hx⟩ := (Vals.of_own h1).1
  rw [h2] at he hc hx
  refine ⟨a, cap, he, hc, hm, fun h0 => ?_⟩
  obtain ⟨b, o, rfl, hy⟩ := hx h0
  refine ⟨b, o, rfl, fun i r hr => ?_⟩
  have hi : i < us.length := by rw [h2]; exact (List.getElem?_eq_some_iff.1 hr).1
  exact ⟨us[i], hy i _ (List.getElem?_eq_getElem hi), (h3 i _ r (List.getElem?_eq_getElem hi) hr).now⟩
theorem NmRow.old {w w' : World} {base : Nat} {v : Value} {n : List (List Part)} (h : NmRow w base v n) (f : Fr (fun _ => False) w w') : NmRow w' base v n := by
  obtain ⟨us, h1, h2, h3⟩ := h
  exact ⟨us, Go.Proofs.YtacekpdjapgfcaaGreatDoor.ownsRow_fr h1 f (fun _ _ h => h), h2, fun i u r hu hr => (h3 i u r hu hr).old f⟩
theorem NmRow.kept {w : World} {base : Nat} {v : Value} {n : List (List Part)} (h : NmRow w base v n) : ∀ k, v.ownBlock = some k → base ≤ k ∧ k < w.heap.size := by
  obtain ⟨us, h1, -⟩ := h
  exact (Vals.of_own h1).2
theorem NmRow.shape {w : World} {base : Nat} {v : Value} {n : List (List Part)} (h : NmRow w base v n) : ∃ a c, v = .slice a n.length c := by
  obtain ⟨us, h1, -⟩ := h
  obtain ⟨a, m, c, rfl, rfl⟩ := own_shape h1
  exact ⟨a, c, rfl⟩
theorem Attrs.form {w : World} {v : Value} {l : List Part} (h : Attrs w v l) : ∃ a cap, v = .slice a l.length cap := by
  obtain ⟨a, cap, rfl, -⟩ := h
  exact ⟨a, cap, rfl⟩
theorem NmRow.nil (w : World) (base : Nat) : NmRow w base (.slice none 0 0) [] := ⟨[], ⟨rfl, .inl ⟨rfl, rfl⟩⟩, rfl, fun i u r h => by simp at h⟩
def stepsOfS : List (List UInt8) → Option (List (List Part))
  | [] => some []
  | s :: t => match stepS s with
    | none => none
    | some p => (stepsOfS t).map ([p] :: ·)
def nameOfS (l : List (List UInt8)) : Except Int (List (List Part)) :=
  match stepsOfS l with
  | none => .error 6
  | some n => if 64 < n.length then .error 2 else .ok n
end Go.Q
namespace Go.Proofs.YtacekpdjapgfcaaGreatDoor
open Go Go.RowKit Go.Q
theorem info90 : (Tryz.prog.info? 90).map (fun i => (i.zero, i.size, i.bytes)) = some (some (.slice none 0 0), 1, 24) := by kernel_rfl
theorem NmRow.add {w wa : World} {base : Nat} {v : Value} {n : List (List Part)} (h : NmRow w base v n) (hb : base ≤ w.heap.size) (F1 : Fr (fun _ => False) w wa) (g : Nat) (u : Value) (r : List Part) (BX : Blk wa g 90 #[u]) (hu1 : u.oneCell' = true) (hu : Kept (fun W => Attrs W u r) (fun k => v.ownBlock = some k) w) (hn : n.length ≤ 109951162777) :
    ∃ a c w', (Builtin.append_ #[25, 25] 25 #[v, .slice (some ⟨g, 0, none⟩) 1 1]).run Tryz.prog wa = .ok (.slice a (n.length + 1) c) w' ∧ NmRow w' base (.slice a (n.length + 1) c) (n ++ [r]) ∧ Fr (fun k => v.ownBlock = some k) w w' := by
  obtain ⟨us, h1, h2, h3⟩ := h
  obtain ⟨a, c, w', hrun, h4, F2, h5⟩ := add_gen Tryz.underlying25 info90 rfl (by decide) (by decide) h1 hb F1 g [u] rfl BX (by simpa using hu1) hn
  refine ⟨a, c, w', hrun, ⟨us ++ [u], ?_, by simp [h2], fun i x s hx hs => ?_⟩, F2⟩
  · rw [List.length_append]
    exact h4
  · rcases Nat.lt_or_ge i us.length with hi | hi
    · rw [List.getElem?_append_left hi] at hx
      rw [List.getElem?_append_left (by omega)] at hs
      exact (h3 i x s hx hs).step F2 (fun _ _ h => h) h5
    · obtain rfl : i = us.length := by
        have := (List.getElem?_eq_some_iff.1 hx).1
        simp at this
        omega
      rw [List.getElem?_append_right (Nat.le_refl _)] at hx
      rw [List.getElem?_append_right (by omega)] at hs
      simp at hx
      simp [h2] at hs
      subst hx; subst hs
      exact hu.step F2 (fun _ _ h => h) h5
def NameOfOut (w w' : World) (l : List (List UInt8)) (e : Ending) : Prop :=
  match nameOfS l with
  | .error x => e = .returned (.tuple #[.slice none 0 0, .int .i64 x]) ∧ x ≠ 0
  | .ok n => ∃ v, e = .returned (.tuple #[v, .int .i64 0]) ∧ NmRow w' w.heap.size v n
end Go.Proofs.YtacekpdjapgfcaaGreatDoor

namespace Go.Q
open Go Go.RowKit
def cmpI : List Int → List Int → Int
  | [], [] => 0
  | [], _ :: _ => -1
  | _ :: _, [] => 1
  | x :: s, y :: t => if x < y then -1 else if y < x then 1 else cmpI s t
theorem cmpI_zero : ∀ (s t : List Int), cmpI s t = 0 ↔ s = t
  | [], [] => by simp [cmpI]
  | [], _ :: _ => by simp [cmpI]
  | _ :: _, [] => by simp [cmpI]
  | x :: s, y :: t => by
    have ih := cmpI_zero s t
    unfold cmpI
    split
    · simp; intro h; omega
    · split
      · simp; intro h; omega
      · rw [ih]
        simp
        intro _
        omega
def AttrRow (w wr : World) (base : Nat) (v : Value) (l : List Part) : Prop :=
  ∃ cs : List Value, wr.ownsRow base 108 2 v l.length cs ∧ ∀ (i : Nat) (p : Part), l[i]? = some p → ∃ x y, cs[2 * i]? = some x ∧ cs[2 * i + 1]? = some y ∧ Vals w x (intCells p.o) ∧ Bytes w y p.b
theorem AttrRow.at {w wr : World} {base : Nat} {v : Value} {l : List Part} (h : AttrRow w wr base v l) (F : Fr (fun _ => False) w wr) : Attrs wr v l := by
  obtain ⟨cs, ⟨h1, h2⟩, h3⟩ := h
  rcases h2 with ⟨rfl, h0⟩ | ⟨g, cap, cur, rfl, hg, hh, hnc, hcm, hcs, htk⟩
  · exact ⟨none, 0, by rw [h0], by omega, by unfold maxLen; omega, fun h => by omega⟩
  · refine ⟨_, cap, rfl, hnc, hcm, fun _ => ⟨g, 0, rfl, fun i p hp => ?_⟩⟩
    obtain ⟨x, y, e1, e2, e3, e4⟩ := h3 i p hp
    have hi := (List.getElem?_eq_some_iff.1 hp).1
    have gc : ∀ k, k < l.length * 2 → wr.cell? ⟨g, 0 + k, none⟩ = cs[k]? := fun k hk => by
      have := congrArg (fun z : List Value => z[k]?) htk
      simp only [List.getElem?_take, if_pos hk, Array.getElem?_toList] at this
      rw [Nat.zero_add]
      simp only [World.cell?, hh]
      exact this
    refine ⟨x, y, ?_, ?_, e3.old F, e4.old F⟩
    · rw [gc (2 * i) (by omega)]; exact e1
    · rw [Nat.add_assoc, gc (2 * i + 1) (by omega)]; exact e2
end Go.Q
namespace Go.Proofs.YtacekpdjapgfcaaGreatDoor
open Go Go.RowKit Go.Q
theorem info108 : (Tryz.prog.info? 108).map (fun i => (i.zero, i.size, i.bytes)) = some (some (.agg #[.slice none 0 0, .slice none 0 0]), 2, 48) := by kernel_rfl
theorem AttrRow.add {w wr : World} {base : Nat} {v u : Value} {l r : List Part} (h : AttrRow w wr base v l) (hb : base ≤ wr.heap.size) (F : Fr (fun _ => False) w wr) (hr : Attrs w u r) (hr0 : 0 < r.length) (hn : l.length + r.length ≤ 1099511627776) :
    ∃ a c w', (Builtin.append_ #[90, 90] 90 #[v, u]).run Tryz.prog wr = .ok (.slice a (l.length + r.length) c) w' ∧ AttrRow w w' base (.slice a (l.length + r.length) c) (l ++ r) ∧ Fr (fun k => v.ownBlock = some k) wr w' := by
  obtain ⟨cs, h1, h3⟩ := h
  obtain ⟨ar, cr, rfl, hrc, hrm, hx⟩ := hr
  obtain ⟨b, o, rfl, hy⟩ := hx hr0
  have hcell : ∀ i, i < r.length → ∃ p x y, r[i]? = some p ∧ w.cell? ⟨b, o + 2 * i, none⟩ = some x ∧ w.cell? ⟨b, o + 2 * i + 1, none⟩ = some y ∧ Vals w x (intCells p.o) ∧ Bytes w y p.b := fun i hi => by
    obtain ⟨x, y, e⟩ := hy i _ (List.getElem?_eq_getElem hi)
    exact ⟨_, x, y, List.getElem?_eq_getElem hi, e⟩
  have hall : ∀ k, k < r.length * 2 → ∃ x, w.cell? ⟨b, o + k, none⟩ = some x ∧ x.oneCell' = true := fun k hk => by
    obtain ⟨p, x, y, -, e1, e2, e3, e4⟩ := hcell (k / 2) (by omega)
    rcases Nat.mod_two_eq_zero_or_one k with h0 | h0
    · obtain ⟨ax, cx, rfl, -⟩ := Ints.form e3
      exact ⟨_, by rw [show k = 2 * (k / 2) from by omega]; exact e1, rfl⟩
    · obtain ⟨ay, cy, rfl, -⟩ := Vals.form e4
      exact ⟨_, by rw [show k = 2 * (k / 2) + 1 from by omega, ← Nat.add_assoc]; exact e2, rfl⟩
  obtain ⟨news, hnl, hnews⟩ : ∃ news : List Value, news.length = r.length * 2 ∧ ∀ k x, news[k]? = some x → w.cell? ⟨b, o + k, none⟩ = some x ∧ x.oneCell' = true := by
    refine ⟨(List.range (r.length * 2)).map fun k => (w.cell? ⟨b, o + k, none⟩).getD undef, by simp, fun k x hk => ?_⟩
    have hkl : k < r.length * 2 := by
      have := (List.getElem?_eq_some_iff.1 hk).1
      simpa using this
    obtain ⟨y, e1, e2⟩ := hall k hkl
    rw [List.getElem?_map, List.getElem?_range hkl] at hk
    simp only [Option.map_some, Option.some.injEq] at hk
    rw [e1] at hk
    simp only [Option.getD_some] at hk
    subst hk
    exact ⟨e1, e2⟩
  obtain ⟨a, c, w', hrun, h4, F2, -⟩ := append_gen Tryz.underlying90 info108 rfl (by decide) (by decide) h1 hb ⟨b, o, none⟩ r.length cr news hnl (fun k x hk => by
    rw [show (⟨b, o, none⟩ : Addr).add k = ⟨b, o + k, none⟩ from by unfold Addr.add; split <;> simp_all]
    exact F.cell (hnews k x hk).1 (fun h => h)) (fun x hx => by
    obtain ⟨k, hk⟩ := List.mem_iff_getElem?.1 hx
    exact (hnews k x hk).2) hn
  have hcl : cs.length = l.length * 2 := h1.1
  refine ⟨a, c, w', hrun, ⟨cs ++ news, by rw [List.length_append]; exact h4, fun i p hp => ?_⟩, F2⟩
  rcases Nat.lt_or_ge i l.length with hi | hi
  · rw [List.getElem?_append_left hi] at hp
    obtain ⟨x, y, e1, e2, e3⟩ := h3 i p hp
    exact ⟨x, y, by rw [List.getElem?_append_left (by omega)]; exact e1, by rw [List.getElem?_append_left (by omega)]; exact e2, e3⟩
  · rw [List.getElem?_append_right hi] at hp
    have hil := (List.getElem?_eq_some_iff.1 hp).1
    obtain ⟨q, x, y, hq, e1, e2, e3⟩ := hcell (i - l.length) hil
    rw [hp] at hq
    simp only [Option.some.injEq] at hq
    subst hq
    have g1 : news[2 * (i - l.length)]? = some x := by
      have hlt : 2 * (i - l.length) < news.length := by omega
      obtain ⟨z, hz⟩ : ∃ z, news[2 * (i - l.length)]? = some z := ⟨_, List.getElem?_eq_getElem hlt⟩
      have := (hnews _ z hz).1
      rw [e1] at this
      rw [hz, ← this]
    have g2 : news[2 * (i - l.length) + 1]? = some y := by
      have hlt : 2 * (i - l.length) + 1 < news.length := by omega
      obtain ⟨z, hz⟩ : ∃ z, news[2 * (i - l.length) + 1]? = some z := ⟨_, List.getElem?_eq_getElem hlt⟩
      have := (hnews _ z hz).1
      rw [← Nat.add_assoc, e2] at this
      rw [hz, ← this]
    refine ⟨x, y, ?_, ?_, e3⟩
    · rw [List.getElem?_append_right (by omega), show 2 * i - cs.length = 2 * (i - l.length) from by omega]; exact g1
    · rw [List.getElem?_append_right (by omega), show 2 * i + 1 - cs.length = 2 * (i - l.length) + 1 from by omega]; exact g2
end Go.Proofs.YtacekpdjapgfcaaGreatDoor

namespace Go.Q
open Go Go.RowKit
def partKeys (r : List Part) : List (List UInt8) := r.map fun p => attrKeyS p.o p.b
def rdnKeyS (r : List Part) : List UInt8 := Lib.join (Lib.compact (sortS (partKeys r))) [43]
theorem join_len (c : UInt8) (M : Nat) : ∀ ks : List (List UInt8), (∀ k ∈ ks, k.length ≤ M) → (Lib.join ks [c]).length ≤ ks.length * (M + 1)
  | [], _ => by simp [Lib.join]
  | [k], h => by
    have := h k (by simp)
    simp [Lib.join]
    omega
  | k :: l :: t, h => by
    have h1 := h k (by simp)
    have ih := join_len c M (l :: t) (fun x hx => h x (by simp [List.mem_cons.1 hx]))
    have e : Lib.join (k :: l :: t) [c] = k ++ ([c] ++ Lib.join (l :: t) [c]) := by simp [Lib.join, List.intercalate]
    rw [e]
    simp only [List.length_append, List.length_cons, List.length_nil] at ih ⊢
    rw [Nat.add_mul (t.length + 1) 1 (M + 1)]
    omega
theorem compact_mem {zs : List (List UInt8)} {x : List UInt8} (h : x ∈ Lib.compact zs) : x ∈ zs := by
  unfold Lib.compact Lib.compactUpTo at h
  obtain ⟨i, hi, rfl⟩ := List.mem_map.1 h
  have hi2 := List.mem_range.1 (List.mem_filter.1 hi).1
  simp [hi2]
theorem sort_mem {zs : List (List UInt8)} {x : List UInt8} (h : x ∈ sortS zs) : x ∈ zs := by
  unfold sortS at h
  simpa using h
theorem attrKey_len {o : List Int} {b : List UInt8} (ho : oidOk o = true) (hb : b.length ≤ 10000000) : (attrKeyS o b).length ≤ 160001100 := by
  have hol := (Go.Proofs.YtacekpdjapgfcaaGreatDoor.nums_ok ho).2.1
  have h1 := oidText_len (o := o) (fun n hn => by
    simp only [oidOk, Bool.and_eq_true, decide_eq_true_eq] at ho
    have := List.all_eq_true.1 ho.1.2 n hn
    simp only [arcOk, decide_eq_true_eq] at this
    omega)
  unfold attrKeyS
  rw [List.length_append]
  cases hr : textReadS b with
  | error e =>
    simp only [List.length_append, List.length_cons, List.length_nil, hexS_len]
    omega
  | ok kbn =>
    obtain ⟨k, t, n⟩ := kbn
    have h2 := (textRead_ok hr).2
    have h3 := foldKey_len k t
    simp only [List.length_append, List.length_cons, List.length_nil, hexS_len]
    omega
end Go.Q
namespace Go.Proofs.YtacekpdjapgfcaaGreatDoor
open Go Go.RowKit Go.Q
set_option maxRecDepth 20000 in
set_option maxHeartbeats 2000000 in
theorem rdnKey_any (v : Value) (l : List Part) (w : World) (h : Attrs w v l) (hf : fewB l) (ho : ∀ p ∈ l, oidOk p.o = true) (hln : l.length ≤ 100) (hE : Env w) :
    Calls Tryz.prog 160 #[v] w fun e w' => e = .returned (str (rdnKeyS l)) ∧ Fr (fun _ => False) w w' := by
  have H := Lib.hid h
  have HE := Lib.hid hE
  have HO := Lib.hid ho
  obtain ⟨a, cap, rfl, hc, hm, -⟩ := h
  have hkl : ∀ k ∈ Lib.compact (sortS (partKeys l)), k.length ≤ 160001100 := fun k hk => by
    have h1 := sort_mem (compact_mem hk)
    obtain ⟨p, hp, rfl⟩ := List.mem_map.1 h1
    exact attrKey_len (ho p hp) (hf p hp)
  have HKL := Lib.hid hkl
  clear hE ho hkl
  go_enter Tryz.func160, Tryz.ntmps160
  go_wp2_with fail
  go_loopg [3, 8] l.length (fun g u i wr => ∃ (j : Nat) (au : Option Addr) (cu : Nat), g = l.length - j ∧ j ≤ l.length ∧ u = .slice au j cu ∧ i = .int .i64 j ∧ wr.ownsRow w.heap.size 9 1 (.slice au j cu) j ((partKeys (l.take j)).map str) ∧ Fr (fun _ => False) w wr)
  case atStart => exact ⟨0, none, 0, rfl, Nat.zero_le _, rfl, rfl, ⟨rfl, .inl ⟨rfl, rfl⟩⟩, Fr.refl _⟩
  case round =>
    obtain ⟨j, au, cu, hg, hj, rfl, rfl, hown, F⟩ := hrel
    have HG := Lib.hid hg
    have HOW := Lib.hid hown
    have HF := Lib.hid F
    clear hg hown
    by_cases hjl : j < l.length
    · obtain ⟨a0, cap0, he, _, _, hx⟩ := H.out.old F
      simp only [Value.slice.injEq, true_and] at he
      obtain ⟨rfl, rfl⟩ := he
      obtain ⟨b, off, rfl, hy⟩ := hx (by omega)
      obtain ⟨p, hp⟩ : ∃ p, l[j]? = some p := ⟨_, List.getElem?_eq_getElem hjl⟩
      obtain ⟨x, y, e1, e2, hpx, hpy⟩ := hy j p hp
      have hpb := hf p (List.mem_of_getElem? hp)
      have hpo := HO.out p (List.mem_of_getElem? hp)
      have r1 : (0 : Int) ≤ (j : Int) := by omega
      have r2 : (j : Int) < (l.length : Int) := by omega
      obtain ⟨ax, cx, rfl, -⟩ := Ints.form hpx
      obtain ⟨ay, cy, rfl, -⟩ := Vals.form hpy
      have e1' : wr.cell? ⟨b, off + j * 2, none⟩ = some (.slice ax p.o.length cx) := by rw [Nat.mul_comm]; exact e1
      have e2' : wr.cell? ⟨b, off + j * 2 + 1, none⟩ = some (.slice ay p.b.length cy) := by rw [Nat.mul_comm]; exact e2
      have HP := Lib.hid hp
      have HPX := Lib.hid hpx
      have HPY := Lib.hid hpy
      clear hx hy hp F hpx hpy
      go_upto_region 5 with fail
      have BZ := Blk.new wr 108 #[.slice ax p.o.length cx, .slice ay p.b.length cy]
      have F1 : Fr (fun _ => False) wr (wr.alloc (.cells #[.slice ax p.o.length cx, .slice ay p.b.length cy] 108)) := (Fr.refl wr).alloc _
      have HK := Lib.hid (attrKey_any _ _ p.o p.b _ (HPX.out.old F1) (HPY.out.old F1) hpo hpb ((HE.out.old HF.out).old F1))
      have HOW1 := Lib.hid (ownsRow_fr HOW.out F1 (fun _ _ h => h))
      have HF1 := Lib.hid (HF.out.trans F1)
      clear e1 e2 e1' e2' HPX HPY HF F1 HOW
      generalize (wr.alloc (.cells #[.slice ax p.o.length cx, .slice ay p.b.length cy] 108)) = w1 at *
      have z0 := BZ.cell 0
      have z1 := BZ.cell 1
      simp at z0 z1
      have hpk : partKeys (l.take (j + 1)) = partKeys (l.take j) ++ [attrKeyS p.o p.b] := by
        unfold partKeys
        rw [List.take_add_one, HP.out]
        simp
      have HPK := Lib.hid hpk
      clear hpk
      generalize attrKeyS p.o p.b = ky at *
      go_wp2_with fail
      refine HK.out.mono ?_
      rintro e w2 ⟨rfl, F2⟩
      have F3 : Fr (fun _ => False) w2 (w2.alloc (.cells #[str ky] 9)) := (Fr.refl w2).alloc _
      have hs1 := HF1.out.size
      have hs2 := F2.size
      have hbk := (Vals.of_own HOW1.out).2
      obtain ⟨a', c', w4, hrun, hown4, F4, hk4⟩ := add_gen Tryz.underlying68 info9 rfl (by decide) (by decide) (ownsRow_fr HOW1.out F2 (fun _ _ h => h)) (by omega) F3 w2.heap.size [str ky] rfl (Blk.new w2 9 #[str ky]) (by simp [Value.oneCell']) (by omega)
      have HRUN := Lib.hid hrun
      have HOW4 := Lib.hid hown4
      have HF4 := Lib.hid ((HF1.out.trans F2).trans' F4 (fun i hi e => by have := (hbk i e).1; omega))
      clear F2 F3 hrun hown4 F4 hk4 hbk BZ z0 z1 HOW1 HF1
      go_wp2_with (at_builtin; refine wpList_append_run (by rfl) (.tmp 12) (.tmp 15) 68 (by rfl) _ w4 (by exact HRUN.out) ?_)
      go_roundg (l.length - (j + 1))
      case measure => rw [HG.out]; omega
      case rel => exact ⟨j + 1, a', c', rfl, by omega, rfl, by go_num, by rw [HPK.out, List.map_append]; exact HOW4.out, HF4.out⟩
    · obtain rfl : j = l.length := by omega
      have hown := HOW.out
      rw [List.take_length] at hown
      have hpl : (partKeys l).length = l.length := by simp [partKeys]
      have hres : rdnKeyS l = Lib.join (Lib.compact (sortS (partKeys l))) [43] := rfl
      have HRES := Lib.hid hres
      have HS := Lib.hid (strSort_any (partKeys l) (by rw [hpl]; exact hown) (by omega))
      have hsl : (sortS (partKeys l)).length = l.length := by simp [sortS, hpl]
      have hbk := (Vals.of_own hown).2
      have HSL := Lib.hid hsl
      clear hpl hres hown HOW hsl
      generalize partKeys l = pk at *
      go_wp2_with fail
      refine HS.out.mono ?_
      rintro e w2 ⟨rfl, hown2, F2⟩
      have HF2 := Lib.hid (F.trans' F2 (fun i hi e => by have := (hbk i e).1; omega))
      have HC := Lib.hid (strCompact_any (sortS pk) hown2 (by rw [HSL.out]; omega))
      have hbk2 := (Vals.of_own hown2).2
      have hcl := Lib.compact_length_le (sortS pk)
      rw [HSL.out] at hcl
      clear F2 hown2 HS hbk
      generalize sortS pk = sk at *
      go_wp2_with fail
      refine HC.out.mono ?_
      rintro e w3 ⟨⟨v3, rfl, hown3⟩, F3⟩
      have HF3 := Lib.hid (HF2.out.trans' F3 (fun i hi e => by have := (hbk2 i e).1; omega))
      have hv3 := (Vals.of_own hown3).1
      have hjl2 := join_len 43 160001100 (Lib.compact sk) HKL.out
      have HJ := Lib.hid (strJoin_any (Lib.compact sk) 43 v3 w3 hv3 (by omega) (by
        have : (Lib.compact sk).length * (160001100 + 1) ≤ 100 * (160001100 + 1) := Nat.mul_le_mul_right _ (by omega)
        omega))
      obtain ⟨a3, m3, c3, rfl, -⟩ := own_shape hown3
      clear F3 hown3 HC hbk2 hv3 hjl2
      generalize Lib.compact sk = ck at *
      go_wp2_with fail
      refine HJ.out.mono ?_
      rintro e w4 ⟨rfl, F4⟩
      go_wp2_with fail
      go_ret
      exact ⟨by rw [HRES.out]; rfl, HF3.out.trans F4⟩
end Go.Proofs.YtacekpdjapgfcaaGreatDoor

namespace Go.Q
open Go Go.RowKit
def nameKeyS (n : List (List Part)) : List UInt8 := Lib.join (n.map rdnKeyS) [47]
theorem steps_oids : ∀ (l : List Part) (last : Option (List UInt8)), (stepsS last l).isSome = true → ∀ p ∈ l, oidOk p.o = true
  | [], _, _, p, hp => by cases hp
  | q :: t, last, h, p, hp => by
    simp only [stepsS] at h
    cases hq : attrS q.o q.b with
    | none => rw [hq] at h; cases h
    | some x =>
      rw [hq] at h
      have hqo : oidOk q.o = true := by
        unfold attrS at hq
        split at hq
        · rename_i hh; rw [Bool.and_eq_true] at hh; exact hh.1
        · cases hq
      have ht : (stepsS (some x) t).isSome = true := by
        cases last with
        | none => simpa using h
        | some y =>
          by_cases hc : 0 ≤ cmpS y x
          · simp [hc] at h
          · simpa [hc] using h
      rcases List.mem_cons.1 hp with rfl | hm
      · exact hqo
      · exact steps_oids t (some x) ht p hm
theorem rdn_oids {l : List Part} (h : (rdnS l).isSome = true) : l.length ≤ 16 ∧ ∀ p ∈ l, oidOk p.o = true := by
  unfold rdnS at h
  split at h
  · cases h
  · exact ⟨by omega, steps_oids l none h⟩
theorem rdnKey_len {l : List Part} (hf : fewB l) (h : (rdnS l).isSome = true) : (rdnKeyS l).length ≤ 2560017616 := by
  obtain ⟨h1, h2⟩ := rdn_oids h
  have hcl := Lib.compact_length_le (sortS (partKeys l))
  have hsl : (sortS (partKeys l)).length = l.length := by simp [sortS, partKeys]
  rw [hsl] at hcl
  have := join_len 43 160001100 (Lib.compact (sortS (partKeys l))) (fun k hk => by
    have h3 := sort_mem (compact_mem hk)
    obtain ⟨p, hp, rfl⟩ := List.mem_map.1 h3
    exact attrKey_len (h2 p hp) (hf p hp))
  unfold rdnKeyS
  have h4 : (Lib.compact (sortS (partKeys l))).length * (160001100 + 1) ≤ 16 * (160001100 + 1) := Nat.mul_le_mul_right _ (by omega)
  omega
theorem name_rdns {n : List (List Part)} (h : nameOk n = true) : n.length ≤ 64 ∧ ∀ r ∈ n, (rdnS r).isSome = true := by
  unfold nameOk at h
  rw [Bool.and_eq_true] at h
  exact ⟨of_decide_eq_true h.1, fun r hr => List.all_eq_true.1 h.2 r hr⟩
def nameSameS (a b : List (List Part)) : Bool := nameOk a && (nameOk b && decide (nameKeyS a = nameKeyS b))
end Go.Q
namespace Go.Proofs.YtacekpdjapgfcaaGreatDoor
open Go Go.RowKit Go.Q
set_option maxRecDepth 20000 in
set_option maxHeartbeats 2000000 in
theorem nameKey_any (v : Value) (n : List (List Part)) (w : World) (h : NameAt w v n) (hf : ∀ r ∈ n, fewB r) (hok : nameOk n = true) (hE : Env w) :
    Calls Tryz.prog 118 #[v] w fun e w' => e = .returned (.tuple #[str (nameKeyS n), .int .i64 0]) ∧ Fr (fun _ => False) w w' := by
  have H := Lib.hid h
  have HR := right_any v n w h hf
  rw [hok] at HR
  have HRI := Lib.hid HR
  obtain ⟨hn64, hrd⟩ := name_rdns hok
  have HRD := Lib.hid hrd
  have HE := Lib.hid hE
  obtain ⟨a, cap, rfl, hc, hm, -⟩ := h
  have hkl : ∀ k ∈ n.map rdnKeyS, k.length ≤ 2560017616 := fun k hk => by
    obtain ⟨r, hr, rfl⟩ := List.mem_map.1 hk
    exact rdnKey_len (hf r hr) (hrd r hr)
  have hjl := join_len 47 2560017616 (n.map rdnKeyS) hkl
  rw [List.length_map] at hjl
  have hjl2 : n.length * (2560017616 + 1) ≤ 64 * (2560017616 + 1) := Nat.mul_le_mul_right _ hn64
  have hjl3 : (Lib.join (n.map rdnKeyS) [47]).length ≤ 100000000000000 := by omega
  have HJL := Lib.hid hjl3
  clear hE hkl hjl hjl2 hjl3 hok HR hrd
  go_enter Tryz.func118, Tryz.ntmps118
  go_wp2_with fail
  refine HRI.out.mono ?_
  rintro e w0 ⟨rfl, F0⟩
  have HF0 := Lib.hid F0
  clear F0 HRI
  go_wp2_with fail
  go_loopg [4, 12] n.length (fun g u i wr => ∃ (j : Nat) (au : Option Addr) (cu : Nat), g = n.length - j ∧ j ≤ n.length ∧ u = .slice au j cu ∧ i = .int .i64 j ∧ wr.ownsRow w0.heap.size 9 1 (.slice au j cu) j (((n.take j).map rdnKeyS).map str) ∧ Fr (fun _ => False) w0 wr)
  case atStart => exact ⟨0, none, 0, rfl, Nat.zero_le _, rfl, rfl, ⟨rfl, .inl ⟨rfl, rfl⟩⟩, Fr.refl _⟩
  case round =>
    obtain ⟨j, au, cu, hg, hj, rfl, rfl, hown, F⟩ := hrel
    have HG := Lib.hid hg
    have HOW := Lib.hid hown
    have HF := Lib.hid F
    have HFF := Lib.hid (HF0.out.trans F)
    clear hg hown
    by_cases hjl : j < n.length
    · obtain ⟨a0, cap0, he, _, _, hx⟩ := H.out.old HFF.out
      simp only [Value.slice.injEq, true_and] at he
      obtain ⟨rfl, rfl⟩ := he
      obtain ⟨b, off, rfl, hy⟩ := hx (by omega)
      obtain ⟨r, hr⟩ : ∃ r, n[j]? = some r := ⟨_, List.getElem?_eq_getElem hjl⟩
      obtain ⟨x, e1, hA⟩ := hy j r hr
      have hmem := List.mem_of_getElem? hr
      have hri := HRD.out r hmem
      obtain ⟨hr16, hro⟩ := rdn_oids hri
      have HK := Lib.hid (rdnKey_any x r wr hA (hf r hmem) hro (by omega) (HE.out.old HFF.out))
      have hpk : (n.take (j + 1)).map rdnKeyS = (n.take j).map rdnKeyS ++ [rdnKeyS r] := by
        rw [List.take_add_one, hr]
        simp
      have HPK := Lib.hid hpk
      have r1 : (0 : Int) ≤ (j : Int) := by omega
      have r2 : (j : Int) < (n.length : Int) := by omega
      clear hx hy hr hA hmem hri hro F hpk
      generalize rdnKeyS r = ky at *
      go_wp2_with fail
      refine HK.out.mono ?_
      rintro e w2 ⟨rfl, F2⟩
      have F3 : Fr (fun _ => False) w2 (w2.alloc (.cells #[str ky] 9)) := (Fr.refl w2).alloc _
      have hs1 := HF.out.size
      have hs2 := F2.size
      have hbk := (Vals.of_own HOW.out).2
      obtain ⟨a', c', w4, hrun, hown4, F4, hk4⟩ := add_gen Tryz.underlying68 info9 rfl (by decide) (by decide) (ownsRow_fr HOW.out F2 (fun _ _ h => h)) (by omega) F3 w2.heap.size [str ky] rfl (Blk.new w2 9 #[str ky]) (by simp [Value.oneCell']) (by omega)
      have HRUN := Lib.hid hrun
      have HOW4 := Lib.hid hown4
      have HF4 := Lib.hid ((HF.out.trans F2).trans' F4 (fun i hi e => by have := (hbk i e).1; omega))
      clear F2 F3 hrun hown4 F4 hk4 hbk HOW HF HK
      go_wp2_with (at_builtin; refine wpList_append_run (by rfl) (.tmp 16) (.tmp 19) 68 (by rfl) _ w4 (by exact HRUN.out) ?_)
      go_roundg (n.length - (j + 1))
      case measure => rw [HG.out]; omega
      case rel => exact ⟨j + 1, a', c', rfl, by omega, rfl, by go_num, by rw [HPK.out, List.map_append]; exact HOW4.out, HF4.out⟩
    · obtain rfl : j = n.length := by omega
      have hown := HOW.out
      rw [List.take_length] at hown
      have hv3 := (Vals.of_own hown).1
      have HJ := Lib.hid (strJoin_any (n.map rdnKeyS) 47 _ wr hv3 (by rw [List.length_map]; omega) HJL.out)
      have hres : nameKeyS n = Lib.join (n.map rdnKeyS) [47] := rfl
      have HRES := Lib.hid hres
      clear hown hv3 hres HOW
      go_wp2_with fail
      refine HJ.out.mono ?_
      rintro e w4 ⟨rfl, F4⟩
      go_wp2_with fail
      refine bodyPost_ret (v := .tuple #[str (Lib.join (n.map rdnKeyS) [47]), .int .i64 0]) (by simp [results, Tryz.results118, go_sem]) rfl ⟨by rw [HRES.out], HFF.out.trans F4⟩
def keyOut (n : List (List Part)) : Value := if nameOk n = true then .tuple #[str (nameKeyS n), .int .i64 0] else .tuple #[str [], .int .i64 1]
end Go.Proofs.YtacekpdjapgfcaaGreatDoor

namespace Go.Q
open Go Go.RowKit
theorem cmpI_drop {o p : List Int} {j : Nat} {x y : Int} (hx : o[j]? = some x) (hy : p[j]? = some y) : cmpI (o.drop j) (p.drop j) = if x < y then -1 else if y < x then 1 else cmpI (o.drop (j + 1)) (p.drop (j + 1)) := by
  have h1 : o.drop j = x :: o.drop (j + 1) := by
    obtain ⟨h, rfl⟩ := List.getElem?_eq_some_iff.1 hx
    exact List.drop_eq_getElem_cons h
  have h2 : p.drop j = y :: p.drop (j + 1) := by
    obtain ⟨h, rfl⟩ := List.getElem?_eq_some_iff.1 hy
    exact List.drop_eq_getElem_cons h
  rw [h1, h2]
  rfl
def partTextS (ks : List Int) (p : Part) : Option (List UInt8) :=
  if ks ≠ [] ∧ p.o ≠ ks then none else match textReadS p.b with
    | .ok (k, t, _) => some (utf8S k t)
    | .error _ => none
def textsS (n : List (List Part)) (ks : List Int) : List (List UInt8) := if nameOk n = true then n.flatten.filterMap (partTextS ks) else []
end Go.Q
namespace Go.Proofs.YtacekpdjapgfcaaGreatDoor
open Go Go.RowKit Go.Q
end Go.Proofs.YtacekpdjapgfcaaGreatDoor

namespace Go.Proofs.YtacekpdjapgfcaaGreatDoor
open Go Go.RowKit Go.Q
set_option maxRecDepth 20000 in
set_option maxHeartbeats 1000000 in
theorem r04Right_any (v : Value) (o : List Int) (w : World) (h : Ints w v o) :
    Calls Tryz.prog 218 #[v] w fun e w' => e = .returned (.bool (oidOk o)) ∧ w = w' := by
  obtain ⟨a, cap, rfl, hc, hm, hx⟩ := Ints.form h
  have HX := Lib.hid hx
  clear h hx
  rcases Classical.em (2 ≤ o.length ∧ o.length ≤ 32) with hl | hl
  · obtain ⟨hl1, hl2⟩ := hl
    have q1 : decide ((o.length : Int) < 2) = false := decide_eq_false (by omega)
    have q2 : decide ((32 : Int) < (o.length : Int)) = false := decide_eq_false (by omega)
    go_enter Tryz.func218, Tryz.ntmps218
    go_wp2_with fail
    go_loopg [3] o.length (fun g i wr => ∃ j : Nat, g = o.length - j ∧ j ≤ o.length ∧ i = .int .i64 j ∧ (o.take j).all arcOk = true ∧ wr = w)
    case atStart => exact ⟨0, rfl, by omega, rfl, rfl, rfl⟩
    case round =>
      obtain ⟨j, hg, hj, rfl, hall, rfl⟩ := hrel
      have HG := Lib.hid hg
      have HA := Lib.hid hall
      clear hg hall
      obtain ⟨b, off, rfl, hy⟩ := HX.out (by omega)
      by_cases hjl : j < o.length
      · obtain ⟨x, hxj⟩ : ∃ x, o[j]? = some x := ⟨_, List.getElem?_eq_getElem hjl⟩
        have ex := hy j x hxj
        have hat : (o.take (j + 1)).all arcOk = ((o.take j).all arcOk && arcOk x) := by
          rw [List.take_add_one, hxj]
          simp
        have HAT := Lib.hid hat
        have q3 : (0 : Int) ≤ (j : Int) := by omega
        have q4 : (j : Int) < (o.length : Int) := by omega
        have hbad : arcOk x = false → oidOk o = false := fun hb => by
          have : o.all arcOk = false := by
            rw [List.all_eq_false]
            exact ⟨x, List.mem_of_getElem? hxj, by simp [hb]⟩
          simp [oidOk, this]
        have HB := Lib.hid hbad
        clear hy hxj hat hbad
        rcases Classical.em (x < 0) with h0 | h0
        · have q5 : decide (x < 0) = true := decide_eq_true h0
          go_wp2_with fail
          go_ret
          exact ⟨by rw [HB.out (by simp [arcOk]; omega)]; rfl, rfl⟩
        · have q5 : decide (x < 0) = false := decide_eq_false h0
          rcases Classical.em ((2147483647 : Int) < x) with h1 | h1
          · have q6 : decide ((2147483647 : Int) < x) = true := decide_eq_true h1
            go_wp2_with fail
            go_ret
            exact ⟨by rw [HB.out (by simp [arcOk]; omega)]; rfl, rfl⟩
          · have q6 : decide ((2147483647 : Int) < x) = false := decide_eq_false h1
            go_wp2_with fail
            go_roundg (o.length - (j + 1))
            case measure => rw [HG.out]; omega
            case rel => exact ⟨j + 1, rfl, by omega, by go_num, by rw [HAT.out, HA.out]; simp [arcOk]; omega, rfl⟩
      · have hall : o.all arcOk = true := by
          have := HA.out
          rwa [List.take_of_length_le (by omega)] at this
        obtain ⟨x0, hx0⟩ : ∃ x, o[0]? = some x := ⟨_, List.getElem?_eq_getElem (by omega)⟩
        obtain ⟨x1, hx1⟩ : ∃ x, o[1]? = some x := ⟨_, List.getElem?_eq_getElem (by omega)⟩
        have e0 := hy 0 x0 hx0
        have e1 := hy 1 x1 hx1
        have hE : oidOk o = twoOk x0 x1 := by
          simp [oidOk, hall, hl1, hl2, List.getD, hx0, hx1]
        have hp0 : 0 ≤ x0 := by
          have := List.all_eq_true.1 hall x0 (List.mem_of_getElem? hx0)
          simp only [arcOk, decide_eq_true_eq] at this
          exact this.1
        have HE := Lib.hid hE
        have z1 : (1 : Int) < (o.length : Int) := by omega
        have z0 : (0 : Int) < (o.length : Int) := by omega
        simp only [Nat.add_zero] at e0
        clear hy hx0 hx1 hall hE HA HX
        by_cases h2 : x0 < 2
        · by_cases h40 : x1 < 40
          · have hv : twoOk x0 x1 = true := by unfold twoOk; rw [decide_eq_true (show x0 = 0 ∨ x0 = 1 by omega), decide_eq_true h40]; rfl
            have HV := Lib.hid hv
            clear hv
            go_wp2_with fail
            go_ret
            exact ⟨by rw [HE.out, HV.out]; rfl, rfl⟩
          · have hv : twoOk x0 x1 = false := by unfold twoOk; rw [decide_eq_false h40, decide_eq_false (show ¬ x0 = 2 by omega), Bool.and_false]; rfl
            have HV := Lib.hid hv
            have p2 : (x0 == 2) = false := beq_eq_false_iff_ne.2 (by omega)
            clear hv
            go_wp2_with fail
            go_ret
            exact ⟨by rw [HE.out, HV.out]; rfl, rfl⟩
        · by_cases h22 : x0 = 2
          · subst h22
            by_cases hm1 : x1 ≤ 2147483567
            · have hv : twoOk 2 x1 = true := by unfold twoOk; rw [decide_eq_true hm1]; simp
              have HV := Lib.hid hv
              clear hv
              go_wp2_with fail
              go_ret
              exact ⟨by rw [HE.out, HV.out]; rfl, rfl⟩
            · have hv : twoOk 2 x1 = false := by unfold twoOk; rw [decide_eq_false hm1]; simp
              have HV := Lib.hid hv
              clear hv
              go_wp2_with fail
              go_ret
              exact ⟨by rw [HE.out, HV.out]; rfl, rfl⟩
          · have hv : twoOk x0 x1 = false := by unfold twoOk; rw [decide_eq_false h22, decide_eq_false (show ¬ (x0 = 0 ∨ x0 = 1) by omega)]; rfl
            have HV := Lib.hid hv
            have p2 : (x0 == 2) = false := beq_eq_false_iff_ne.2 h22
            clear hv
            go_wp2_with fail
            go_ret
            exact ⟨by rw [HE.out, HV.out]; rfl, rfl⟩
  · have hE : oidOk o = false := by simp [oidOk]; omega
    have HE := Lib.hid hE
    rcases Classical.em (o.length < 2) with h2 | h2
    case' inl => have q1 : decide ((o.length : Int) < 2) = true := decide_eq_true (by omega)
    case' inr =>
      have q1 : decide ((o.length : Int) < 2) = false := decide_eq_false (by omega)
      have q2 : decide ((32 : Int) < (o.length : Int)) = true := decide_eq_true (by omega)
    all_goals
      clear hE
      go_enter Tryz.func218, Tryz.ntmps218
      go_wp2_with fail
      go_ret
      exact ⟨by rw [HE.out]; rfl, rfl⟩
set_option maxRecDepth 20000 in
set_option maxHeartbeats 1000000 in
theorem r04Compare_any (v u : Value) (o p : List Int) (w : World) (h : Ints w v o) (hu : Ints w u p) :
    Calls Tryz.prog 112 #[v, u] w fun e w' => e = .returned (.int .i64 (cmpI o p)) ∧ Fr (fun _ => False) w w' := by
  obtain ⟨a, cap, rfl, hc1, hm1, hx⟩ := Ints.form h
  obtain ⟨b, cbp, rfl, hc2, hm2, hy⟩ := Ints.form hu
  have HX := Lib.hid hx
  have HY := Lib.hid hy
  unfold maxLen at hm1 hm2
  clear h hu hx hy
  go_enter Tryz.func112, Tryz.ntmps112
  go_wp2_with fail
  go_loopg [5] (o.length + p.length) (fun g i wr => ∃ j : Nat, g = o.length + p.length - j ∧ j ≤ o.length ∧ j ≤ p.length ∧ i = .int .i64 j ∧ cmpI o p = cmpI (o.drop j) (p.drop j) ∧ Fr (fun _ => False) w wr)
  case atStart => exact ⟨0, rfl, Nat.zero_le _, Nat.zero_le _, rfl, rfl, Fr.refl _⟩
  case round =>
    obtain ⟨j, hg, hj, hjp, rfl, hE, F⟩ := hrel
    have HG := Lib.hid hg
    have HE := Lib.hid hE
    have HF := Lib.hid F
    clear hg hE
    by_cases hjl : j < o.length
    · obtain ⟨ba, oa, rfl, ha⟩ := HX.out (by omega)
      obtain ⟨x, hxj⟩ : ∃ x, o[j]? = some x := ⟨_, List.getElem?_eq_getElem hjl⟩
      have e1 := F.cell (ha j x hxj) (fun h => h)
      have r1 : (0 : Int) ≤ (j : Int) := by omega
      have r2 : (j : Int) < (o.length : Int) := by omega
      have r5 : decide ((o.length : Int) ≤ (j : Int)) = false := decide_eq_false (by omega)
      have r5N : decide (o.length ≤ j) = false := decide_eq_false (by omega)
      have r5' : decide ((j : Int) < (o.length : Int)) = true := decide_eq_true (by omega)
      have r5'N : decide (j < o.length) = true := decide_eq_true (by omega)
      by_cases hjl2 : j < p.length
      · obtain ⟨bb, ob, rfl, hb⟩ := HY.out (by omega)
        obtain ⟨y, hyj⟩ : ∃ y, p[j]? = some y := ⟨_, List.getElem?_eq_getElem hjl2⟩
        have e2 := F.cell (hb j y hyj) (fun h => h)
        have r4 : (j : Int) < (p.length : Int) := by omega
        have r3 : decide ((p.length : Int) ≤ (j : Int)) = false := decide_eq_false (by omega)
        have r3N : decide (p.length ≤ j) = false := decide_eq_false (by omega)
        have r4' : decide ((j : Int) < (p.length : Int)) = true := decide_eq_true (by omega)
        have r4'N : decide (j < p.length) = true := decide_eq_true (by omega)
        have hcd := Lib.hid (cmpI_drop hxj hyj)
        clear ha hb hxj hyj F
        by_cases h1 : x < y
        · have hres : cmpI o p = -1 := by rw [HE.out, hcd.out, if_pos h1]
          have HRES := Lib.hid hres
          have q1 : decide (x < y) = true := decide_eq_true h1
          clear hres
          go_wp2_with fail
          go_quiet (fail)
          go_wp2_with fail
          go_ret
          refine ⟨by rw [HRES.out]; rfl, ?_⟩; (first | with_reducible exact HF.out | with_reducible exact Fr.drewN HF.out _ | with_reducible exact Fr.drewN (Fr.drewN HF.out _) _ | with_reducible exact Fr.drewN (Fr.drewN (Fr.drewN HF.out _) _) _)
        · have q1 : decide (x < y) = false := decide_eq_false h1
          by_cases h2 : y < x
          · have hres : cmpI o p = 1 := by rw [HE.out, hcd.out, if_neg h1, if_pos h2]
            have HRES := Lib.hid hres
            have q2 : decide (y < x) = true := decide_eq_true h2
            clear hres
            go_wp2_with fail
            go_quiet (fail)
            go_wp2_with fail
            go_quiet (fail)
            go_wp2_with fail
            go_ret
            refine ⟨by rw [HRES.out]; rfl, ?_⟩; (first | with_reducible exact HF.out | with_reducible exact Fr.drewN HF.out _ | with_reducible exact Fr.drewN (Fr.drewN HF.out _) _ | with_reducible exact Fr.drewN (Fr.drewN (Fr.drewN HF.out _) _) _)
          · have hres : cmpI o p = cmpI (o.drop (j + 1)) (p.drop (j + 1)) := by rw [HE.out, hcd.out, if_neg h1, if_neg h2]
            have HRES := Lib.hid hres
            have q2 : decide (y < x) = false := decide_eq_false h2
            clear hres
            go_wp2_with fail
            go_quiet (fail)
            go_wp2_with fail
            go_quiet (fail)
            go_wp2_with fail
            go_roundg (o.length + p.length - (j + 1))
            case measure => rw [HG.out]; omega
            case rel => refine ⟨j + 1, rfl, by omega, by omega, by go_num, HRES.out, ?_⟩; (first | with_reducible exact HF.out | with_reducible exact Fr.drewN HF.out _ | with_reducible exact Fr.drewN (Fr.drewN HF.out _) _ | with_reducible exact Fr.drewN (Fr.drewN (Fr.drewN HF.out _) _) _)
      · have r3 : decide ((p.length : Int) ≤ (j : Int)) = true := decide_eq_true (by omega)
        have r3N : decide (p.length ≤ j) = true := decide_eq_true (by omega)
        have r4 : decide ((j : Int) < (p.length : Int)) = false := decide_eq_false (by omega)
        have r4N : decide (j < p.length) = false := decide_eq_false (by omega)
        have hres : cmpI o p = 1 := by
          have h1 : o.drop j = x :: o.drop (j + 1) := by
            obtain ⟨h, rfl⟩ := List.getElem?_eq_some_iff.1 hxj
            exact List.drop_eq_getElem_cons h
          have h2 : p.drop j = [] := List.drop_eq_nil_of_le (by omega)
          rw [HE.out, h1, h2]
          rfl
        have HRES := Lib.hid hres
        clear hres ha hxj F
        go_wp2_with fail
        go_quiet (fail)
        go_wp2_with fail
        go_quiet (fail)
        go_wp2_with fail
        go_ret
        refine ⟨by rw [HRES.out]; rfl, ?_⟩; (first | with_reducible exact HF.out | with_reducible exact Fr.drewN HF.out _ | with_reducible exact Fr.drewN (Fr.drewN HF.out _) _ | with_reducible exact Fr.drewN (Fr.drewN (Fr.drewN HF.out _) _) _)
    · obtain rfl : j = o.length := by omega
      have h1 : o.drop o.length = [] := List.drop_length
      have r5 : decide ((o.length : Int) ≤ (o.length : Int)) = true := decide_eq_true (by omega)
      have r5N : decide (o.length ≤ o.length) = true := decide_eq_true (by omega)
      by_cases hlt : o.length < p.length
      · have r3 : (o.length : Int) < (p.length : Int) := by omega
        have r3N : decide (o.length < p.length) = true := decide_eq_true hlt
        have hres : cmpI o p = -1 := by
          rw [HE.out, h1]
          have : p.drop o.length ≠ [] := fun e => by have := drop_nil e; omega
          cases hd : p.drop o.length with
          | nil => exact absurd hd this
          | cons y t => rfl
        have HRES := Lib.hid hres
        clear hres h1 F
        go_wp2_with fail
        go_quiet (fail)
        go_wp2_with fail
        go_ret
        refine ⟨by rw [HRES.out]; rfl, ?_⟩; (first | with_reducible exact HF.out | with_reducible exact Fr.drewN HF.out _ | with_reducible exact Fr.drewN (Fr.drewN HF.out _) _ | with_reducible exact Fr.drewN (Fr.drewN (Fr.drewN HF.out _) _) _)
      · have r3 : ¬ (o.length : Int) < (p.length : Int) := by omega
        have r3N : decide (o.length < p.length) = false := decide_eq_false hlt
        have hres : cmpI o p = 0 := by
          have h2 : p.drop o.length = [] := List.drop_eq_nil_of_le (by omega)
          rw [HE.out, h1, h2]
          rfl
        have HRES := Lib.hid hres
        clear hres h1
        go_wp2_with fail
        go_ret
        exact ⟨by rw [HRES.out]; rfl, F⟩
theorem r04Same_any (v u : Value) (o p : List Int) (w : World) (h : Ints w v o) (hu : Ints w u p) :
    Calls Tryz.prog 64 #[v, u] w fun e w' => e = .returned (.bool (decide (o = p))) ∧ Fr (fun _ => False) w w' := by
  have H := Lib.hid (r04Compare_any v u o p w h hu)
  clear h hu
  have hq : (cmpI o p == 0) = decide (o = p) := by
    rw [Bool.eq_iff_iff]
    simp [cmpI_zero]
  have HQ := Lib.hid hq
  clear hq
  generalize cmpI o p = c at *
  go_enter Tryz.func64, Tryz.ntmps64
  go_wp2_with fail
  refine H.out.mono ?_
  rintro e w' ⟨rfl, F⟩
  go_wp2_with fail
  go_ret
  exact ⟨by rw [← HQ.out]; rfl, F⟩
end Go.Proofs.YtacekpdjapgfcaaGreatDoor

namespace Go.Proofs.YtacekpdjapgfcaaGreatDoor
open Go Go.RowKit Go.Q
set_option linter.unusedSimpArgs false
def rWholeOut (w w' : World) (o : List Int) (b : List UInt8) (e : Ending) : Prop :=
  match attrS o b with
  | none => e = .returned (.tuple #[.slice none 0 0, .bool false])
  | some x => ∃ v, e = .returned (.tuple #[v, .bool true]) ∧ w'.ownsRow w.heap.size 5 1 v x.length (Lib.byteCells x)
set_option maxRecDepth 20000 in
set_option maxHeartbeats 2000000 in
theorem r14Whole_any (x y : Value) (o : List Int) (b : List UInt8) (w : World) (hx : Ints w x o) (hy : Bytes w y b) (hl : b.length ≤ 10000000) :
    Calls Tryz.prog 168 #[.agg #[x, y]] w fun e w' => rWholeOut w w' o b e ∧ Fr (fun _ => False) w w' := by
  obtain ⟨ax, cx, rfl, -⟩ := Ints.form hx
  obtain ⟨ay, cy, rfl, -⟩ := Vals.form hy
  obtain ⟨z, hz⟩ : ∃ z, z = w.heap.size := ⟨_, rfl⟩
  have BZ := Blk.new w 107 #[.slice ax o.length cx, .slice ay b.length cy]
  have F0 : Fr (fun _ => False) w (w.alloc (.cells #[.slice ax o.length cx, .slice ay b.length cy] 107)) := (Fr.refl w).alloc _
  have HX := Lib.hid (hx.old F0)
  have HY := Lib.hid (hy.old F0)
  rw [← hz] at BZ
  have HF0 := Lib.hid F0
  have HZ := Lib.hid hz
  clear hx hy F0 hz
  go_enter Tryz.func168, Tryz.ntmps168
  go_upto_region 1 with fail
  rw [← HZ.out]
  generalize (w.alloc (.cells #[.slice ax o.length cx, .slice ay b.length cy] 107)) = w0 at *
  have z1 := BZ.cell 1
  simp only [List.getElem?_toArray, List.getElem?_cons_succ, List.getElem?_cons_zero] at z1
  go_wp2_with fail
  refine (r08Wholes_any _ b w0 HY.out (by omega)).mono ?_
  rintro e w1 ⟨hout, F1⟩
  have BZ1 := BZ.fr F1 (fun h => h)
  have HF1 := Lib.hid (HF0.out.trans F1)
  have HX1 := Lib.hid (HX.out.old F1)
  have HY1 := Lib.hid (HY.out.old F1)
  unfold wholesOut at hout
  clear HX HY HF0 F1 BZ z1
  cases hr : allS b with
  | error x =>
    rw [hr] at hout
    subst hout
    have hx0 : x ≠ 0 := allS_pos hr
    have hx1 : (x == 0) = false := beq_eq_false_iff_ne.2 hx0
    have hx2 : (x != 0) = true := by simpa using hx0
    have hn : attrS o b = none := by unfold attrS singleB; rw [hr, Bool.and_false]; rfl
    have HN := Lib.hid hn
    clear hn hr hx0
    go_wp2_with fail
    refine bodyPost_ret (v := .tuple #[.slice none 0 0, .bool false]) (by simp [results, Tryz.results168, go_sem]) rfl ⟨?_, HF1.out⟩
    unfold rWholeOut
    rw [HN.out]
  | ok ls =>
    rw [hr] at hout
    obtain ⟨al, cl, rfl⟩ := hout
    by_cases h1 : ls.length = 1
    · have hs : singleB b = true := by unfold singleB; rw [hr]; simp [h1]
      have q1 : ((ls.length : Int) == 1) = true := by rw [h1]; rfl
      have q2 : ((ls.length : Int) != 1) = false := by rw [h1]; rfl
      have q3 : (ls.length == 1) = true := by rw [h1]; rfl
      have q4 : (ls.length != 1) = false := by rw [h1]; rfl
      have HRI := Lib.hid (r04Right_any _ o w1 HX1.out)
      have z0 := BZ1.cell 0
      simp only [List.getElem?_toArray, List.getElem?_cons_succ, List.getElem?_cons_zero] at z0
      clear hr h1
      cases ho : oidOk o with
      | false =>
        rw [ho] at HRI
        have hn : attrS o b = none := by unfold attrS; rw [ho]; rfl
        have HN := Lib.hid hn
        clear hn ho
        go_wp2_with fail
        refine HRI.out.mono ?_
        rintro e w2 ⟨rfl, rfl⟩
        go_wp2_with fail
        refine bodyPost_ret (v := .tuple #[.slice none 0 0, .bool false]) (by simp [results, Tryz.results168, go_sem]) rfl ⟨?_, HF1.out⟩
        unfold rWholeOut
        rw [HN.out]
      | true =>
        rw [ho] at HRI
        have hn : attrS o b = some (wrapS (tagOf 16) (oidWhole o ++ b)) := by unfold attrS; rw [ho, hs]; rfl
        have HN := Lib.hid hn
        have hol := oidWhole_len (nums_ok ho).2.1
        have HO := Lib.hid ho
        clear hn ho hs
        go_wp2_with fail
        refine HRI.out.mono ?_
        rintro e w2 ⟨rfl, rfl⟩
        clear z0 HRI q1 q2 q3 q4
        go_upto_region 4 with fail
        have G : Fr (fun _ => False) w1 w1.drew := (Fr.refl w1).drew
        have B := BZ1.drew
        have hB1 := BZ1.lt
        obtain ⟨T, hT⟩ : ∃ T, T = tagOf 16 := ⟨_, rfl⟩
        have HTG := Lib.hid (show tagGood T from by rw [hT]; exact good_of (n := 16) (by decide) (by decide))
        have HOF := Lib.hid (fun w => r02Of_any 16 w)
        have HWH := Lib.hid (fun (W : World) (hW : Ints W (.slice ax o.length cx) o) => r04Whole_any (.slice ax o.length cx) o W hW HO.out)
        rw [← hT] at HN HOF
        generalize oidWhole o = ow at *
        clear hT
        have GS : w.heap.size ≤ w1.heap.size := HF1.out.size
        go_region_held3 (fun w' => ∀ j, w'.cell? ⟨z, j, none⟩ = (#[.slice ax o.length cx, .slice ay b.length cy] : Array Value)[j]?) (first | exact B.cell) (first
          | (go_at_call 51; refine (HOF.out _).mono ?_; rintro e w' ⟨rfl, F⟩; replace B := B.fr F (fun h => h); replace G := G.trans F; (try replace hv := ownsRow_fr hv F (fun _ _ h => h)))
          | (go_at_call 219; refine (HWH.out _ (HX1.out.old G)).mono ?_; rintro e w' ⟨v, rfl, hv0, F⟩; have hv := own_le hv0 (show w1.heap.size ≤ _ from G.size); obtain ⟨av, mv, cv, rfl, rfl⟩ := own_shape hv; replace B := B.fr F (fun h => h); replace G := G.trans F)
          | (obtain ⟨v7, w7, hrun, ho7, F7, hat⟩ := append_bytes hv ay b.length cy b (HY1.out.old G) (by omega) (show w1.heap.size ≤ _ from G.size); obtain ⟨a7, m7, c7, rfl, rfl⟩ := own_shape ho7; refine step_append_run (by rfl) (.tmp 28) (.tmp 30) 23 (by rfl) _ w7 (by exact hrun) ?_; have hbk := (Vals.of_own hv).2; replace B := B.fr F7 (fun e => by have := (hbk z e).1; omega); replace G := G.trans' F7 (fun i hi e => absurd hi (by have := (hbk i e).1; omega)); have hs7 : w1.heap.size ≤ w7.heap.size := G.size; have hml : (ow ++ b).length ≤ 16777216 := (by rw [List.length_append]; omega); clear hv hrun F7 hat)
          | (go_at_call 50; refine (r02Wrap_any T HTG.out (.slice a7 (ow.length + b.length) c7) (ow ++ b) _ (Vals.of_own ho7).1 hml).mono ?_; rintro e w' ⟨v, rfl, hv9, F⟩; obtain ⟨av, mv, cv, rfl, rfl⟩ := own_shape hv9; replace B := B.fr F (fun h => h); replace G := G.trans F))
        all_goals
          have HO9 := Lib.hid (own_le hv9 (show w.heap.size ≤ w7.heap.size from by omega))
          have HG9 := Lib.hid (HF1.out.trans G)
          clear hv9 ho7 B G F hbk hml
          generalize wrapS T (ow ++ b) = wx at *
          go_wp2_with fail
          refine bodyPost_ret (v := .tuple #[.slice av wx.length cv, .bool true]) (by simp [results, Tryz.results168, go_sem]) rfl ⟨?_, HG9.out⟩
          unfold rWholeOut
          rw [HN.out]
          exact ⟨_, rfl, HO9.out⟩
    · have hs : singleB b = false := by unfold singleB; rw [hr]; simp [h1]
      have q1 : ((ls.length : Int) == 1) = false := beq_eq_false_iff_ne.2 (by omega)
      have q2 : ((ls.length : Int) != 1) = true := by simpa using (by omega : (ls.length : Int) ≠ 1)
      have q3 : (ls.length == 1) = false := beq_eq_false_iff_ne.2 (by omega)
      have q4 : (ls.length != 1) = true := by simpa using h1
      have hn : attrS o b = none := by unfold attrS; rw [hs, Bool.and_false]; rfl
      have HN := Lib.hid hn
      clear hn hr hs h1
      go_wp2_with fail
      refine bodyPost_ret (v := .tuple #[.slice none 0 0, .bool false]) (by simp [results, Tryz.results168, go_sem]) rfl ⟨?_, HF1.out⟩
      unfold rWholeOut
      rw [HN.out]
end Go.Proofs.YtacekpdjapgfcaaGreatDoor

namespace Go.Q
open Go Go.RowKit
theorem cmpS_drop {a b : List UInt8} {j : Nat} {x y : UInt8} (hx : a[j]? = some x) (hy : b[j]? = some y) : cmpS (a.drop j) (b.drop j) = if x.toNat < y.toNat then -1 else if y.toNat < x.toNat then 1 else cmpS (a.drop (j + 1)) (b.drop (j + 1)) := by
  have h1 : a.drop j = x :: a.drop (j + 1) := by
    obtain ⟨h, rfl⟩ := List.getElem?_eq_some_iff.1 hx
    exact List.drop_eq_getElem_cons h
  have h2 : b.drop j = y :: b.drop (j + 1) := by
    obtain ⟨h, rfl⟩ := List.getElem?_eq_some_iff.1 hy
    exact List.drop_eq_getElem_cons h
  rw [h1, h2]
  simp only [cmpS]
  by_cases h : x = y
  · subst h; simp
  · rw [if_neg h]
    by_cases h3 : x.toNat < y.toNat
    · rw [if_pos h3, if_pos h3]
    · rw [if_neg h3, if_neg h3, if_pos]
      rcases Nat.lt_or_ge y.toNat x.toNat with h4 | h4
      · exact h4
      · exact absurd (UInt8.toNat_inj.1 (by omega)) h
theorem cmpS_zero : ∀ (s t : List UInt8), cmpS s t = 0 ↔ s = t
  | [], [] => by simp [cmpS]
  | [], _ :: _ => by simp [cmpS]
  | _ :: _, [] => by simp [cmpS]
  | x :: s, y :: t => by
    have ih := cmpS_zero s t
    unfold cmpS
    split
    · rename_i h; subst h; rw [ih]; simp
    · rename_i h
      split <;> simp [h]
end Go.Q
namespace Go.Proofs.YtacekpdjapgfcaaGreatDoor
open Go Go.RowKit Go.Q
set_option maxRecDepth 20000 in
set_option maxHeartbeats 1000000 in
theorem r01Compare_any (v u : Value) (o p : List UInt8) (w : World) (h : Bytes w v o) (hu : Bytes w u p) :
    Calls Tryz.prog 65 #[v, u] w fun e w' => e = .returned (.int .i64 (cmpS o p)) ∧ Fr (fun _ => False) w w' := by
  obtain ⟨a, cap, rfl, hc1, hm1, hx⟩ := Vals.form h
  obtain ⟨b, cbp, rfl, hc2, hm2, hy⟩ := Vals.form hu
  have HX := Lib.hid hx
  have HY := Lib.hid hy
  unfold maxLen at hm1 hm2
  clear h hu hx hy
  go_enter Tryz.func65, Tryz.ntmps65
  go_wp2_with fail
  go_loopg [5] (o.length + p.length) (fun g i wr => ∃ j : Nat, g = o.length + p.length - j ∧ j ≤ o.length ∧ j ≤ p.length ∧ i = .int .i64 j ∧ cmpS o p = cmpS (o.drop j) (p.drop j) ∧ Fr (fun _ => False) w wr)
  case atStart => exact ⟨0, rfl, Nat.zero_le _, Nat.zero_le _, rfl, rfl, Fr.refl _⟩
  case round =>
    obtain ⟨j, hg, hj, hjp, rfl, hE, F⟩ := hrel
    have HG := Lib.hid hg
    have HE := Lib.hid hE
    have HF := Lib.hid F
    clear hg hE
    by_cases hjl : j < o.length
    · obtain ⟨ba, oa, rfl, ha⟩ := HX.out (by omega)
      obtain ⟨x, hxj⟩ : ∃ x, o[j]? = some x := ⟨_, List.getElem?_eq_getElem hjl⟩
      have e1 := F.cell (ha j x hxj) (fun h => h)
      have r1 : (0 : Int) ≤ (j : Int) := by omega
      have r2 : (j : Int) < (o.length : Int) := by omega
      have r5 : decide ((o.length : Int) ≤ (j : Int)) = false := decide_eq_false (by omega)
      have r5N : decide (o.length ≤ j) = false := decide_eq_false (by omega)
      have r5' : decide ((j : Int) < (o.length : Int)) = true := decide_eq_true (by omega)
      have r5'N : decide (j < o.length) = true := decide_eq_true (by omega)
      by_cases hjl2 : j < p.length
      · obtain ⟨bb, ob, rfl, hb⟩ := HY.out (by omega)
        obtain ⟨y, hyj⟩ : ∃ y, p[j]? = some y := ⟨_, List.getElem?_eq_getElem hjl2⟩
        have e2 := F.cell (hb j y hyj) (fun h => h)
        have r4 : (j : Int) < (p.length : Int) := by omega
        have r3 : decide ((p.length : Int) ≤ (j : Int)) = false := decide_eq_false (by omega)
        have r3N : decide (p.length ≤ j) = false := decide_eq_false (by omega)
        have r4' : decide ((j : Int) < (p.length : Int)) = true := decide_eq_true (by omega)
        have r4'N : decide (j < p.length) = true := decide_eq_true (by omega)
        have hcd := Lib.hid (cmpS_drop hxj hyj)
        clear ha hb hxj hyj F
        generalize x.toNat = x at *
        generalize y.toNat = y at *
        by_cases h1 : x < y
        · have hres : cmpS o p = -1 := by rw [HE.out, hcd.out, if_pos h1]
          have HRES := Lib.hid hres
          have q1 : decide ((x : Int) < (y : Int)) = true := decide_eq_true (by omega)
          have q1N : decide (x < y) = true := decide_eq_true h1
          clear hres
          go_wp2_with fail
          go_quiet (fail)
          go_wp2_with fail
          go_ret
          refine ⟨by rw [HRES.out]; rfl, ?_⟩; (first | with_reducible exact HF.out | with_reducible exact Fr.drewN HF.out _ | with_reducible exact Fr.drewN (Fr.drewN HF.out _) _ | with_reducible exact Fr.drewN (Fr.drewN (Fr.drewN HF.out _) _) _)
        · have q1 : decide ((x : Int) < (y : Int)) = false := decide_eq_false (by omega)
          have q1N : decide (x < y) = false := decide_eq_false h1
          by_cases h2 : y < x
          · have hres : cmpS o p = 1 := by rw [HE.out, hcd.out, if_neg h1, if_pos h2]
            have HRES := Lib.hid hres
            have q2 : decide ((y : Int) < (x : Int)) = true := decide_eq_true (by omega)
            have q2N : decide (y < x) = true := decide_eq_true h2
            clear hres
            go_wp2_with fail
            go_quiet (fail)
            go_wp2_with fail
            go_quiet (fail)
            go_wp2_with fail
            go_ret
            refine ⟨by rw [HRES.out]; rfl, ?_⟩; (first | with_reducible exact HF.out | with_reducible exact Fr.drewN HF.out _ | with_reducible exact Fr.drewN (Fr.drewN HF.out _) _ | with_reducible exact Fr.drewN (Fr.drewN (Fr.drewN HF.out _) _) _)
          · have hres : cmpS o p = cmpS (o.drop (j + 1)) (p.drop (j + 1)) := by rw [HE.out, hcd.out, if_neg h1, if_neg h2]
            have HRES := Lib.hid hres
            have q2 : decide ((y : Int) < (x : Int)) = false := decide_eq_false (by omega)
            have q2N : decide (y < x) = false := decide_eq_false h2
            clear hres
            go_wp2_with fail
            go_quiet (fail)
            go_wp2_with fail
            go_quiet (fail)
            go_wp2_with fail
            go_roundg (o.length + p.length - (j + 1))
            case measure => rw [HG.out]; omega
            case rel => refine ⟨j + 1, rfl, by omega, by omega, by go_num, HRES.out, ?_⟩; (first | with_reducible exact HF.out | with_reducible exact Fr.drewN HF.out _ | with_reducible exact Fr.drewN (Fr.drewN HF.out _) _ | with_reducible exact Fr.drewN (Fr.drewN (Fr.drewN HF.out _) _) _)
      · have r3 : decide ((p.length : Int) ≤ (j : Int)) = true := decide_eq_true (by omega)
        have r3N : decide (p.length ≤ j) = true := decide_eq_true (by omega)
        have r4 : decide ((j : Int) < (p.length : Int)) = false := decide_eq_false (by omega)
        have r4N : decide (j < p.length) = false := decide_eq_false (by omega)
        have hres : cmpS o p = 1 := by
          have h1 : o.drop j = x :: o.drop (j + 1) := by
            obtain ⟨h, rfl⟩ := List.getElem?_eq_some_iff.1 hxj
            exact List.drop_eq_getElem_cons h
          have h2 : p.drop j = [] := List.drop_eq_nil_of_le (by omega)
          rw [HE.out, h1, h2]
          rfl
        have HRES := Lib.hid hres
        clear hres ha hxj F
        go_wp2_with fail
        go_quiet (fail)
        go_wp2_with fail
        go_quiet (fail)
        go_wp2_with fail
        go_ret
        refine ⟨by rw [HRES.out]; rfl, ?_⟩; (first | with_reducible exact HF.out | with_reducible exact Fr.drewN HF.out _ | with_reducible exact Fr.drewN (Fr.drewN HF.out _) _ | with_reducible exact Fr.drewN (Fr.drewN (Fr.drewN HF.out _) _) _)
    · obtain rfl : j = o.length := by omega
      have h1 : o.drop o.length = [] := List.drop_length
      have r5 : decide ((o.length : Int) ≤ (o.length : Int)) = true := decide_eq_true (by omega)
      have r5N : decide (o.length ≤ o.length) = true := decide_eq_true (by omega)
      by_cases hlt : o.length < p.length
      · have r3 : (o.length : Int) < (p.length : Int) := by omega
        have r3N : decide (o.length < p.length) = true := decide_eq_true hlt
        have hres : cmpS o p = -1 := by
          rw [HE.out, h1]
          have : p.drop o.length ≠ [] := fun e => by have := drop_nil e; omega
          cases hd : p.drop o.length with
          | nil => exact absurd hd this
          | cons y t => rfl
        have HRES := Lib.hid hres
        clear hres h1 F
        go_wp2_with fail
        go_quiet (fail)
        go_wp2_with fail
        go_ret
        refine ⟨by rw [HRES.out]; rfl, ?_⟩; (first | with_reducible exact HF.out | with_reducible exact Fr.drewN HF.out _ | with_reducible exact Fr.drewN (Fr.drewN HF.out _) _ | with_reducible exact Fr.drewN (Fr.drewN (Fr.drewN HF.out _) _) _)
      · have r3 : ¬ (o.length : Int) < (p.length : Int) := by omega
        have r3N : decide (o.length < p.length) = false := decide_eq_false hlt
        have hres : cmpS o p = 0 := by
          have h2 : p.drop o.length = [] := List.drop_eq_nil_of_le (by omega)
          rw [HE.out, h1, h2]
          rfl
        have HRES := Lib.hid hres
        clear hres h1
        go_wp2_with fail
        go_ret
        exact ⟨by rw [HRES.out]; rfl, F⟩
theorem r01Same_any (v u : Value) (o p : List UInt8) (w : World) (h : Bytes w v o) (hu : Bytes w u p) :
    Calls Tryz.prog 15 #[v, u] w fun e w' => e = .returned (.bool (decide (o = p))) ∧ Fr (fun _ => False) w w' := by
  have H := Lib.hid (r01Compare_any v u o p w h hu)
  clear h hu
  have hq : (cmpS o p == 0) = decide (o = p) := by
    rw [Bool.eq_iff_iff]
    simp [cmpS_zero]
  have HQ := Lib.hid hq
  clear hq
  generalize cmpS o p = c at *
  go_enter Tryz.func15, Tryz.ntmps15
  go_wp2_with fail
  refine H.out.mono ?_
  rintro e w' ⟨rfl, F⟩
  go_wp2_with fail
  go_ret
  exact ⟨by rw [← HQ.out]; rfl, F⟩
end Go.Proofs.YtacekpdjapgfcaaGreatDoor
