/-
  Merged by program: XNCmp XNAttrs XRd XNsRd XR02R XR02L XR02D XR02S XR04S XNRdn XNRight XRdSpec XNStr XR06a XR06b XR06c XR06d XR06e XR06g XR06h XR06s XR06T XNText1 XNText2 XNSeq XNIter1 XNIter2 XShelf2 XNDec XNIter3 XNText3 XNText4 XNText5 XNPut XNTextOf XNTextW.
-/
import Derived.Test.YtacekpdjapgfcaaGreatDoorF0a
import Derived.ProofKit
import Derived.Deep.Slices
import Derived.OpenShut
import Derived.Lib.SliceRun
import Derived.Laws.IdiomStrings
import Derived.Shelf.Bytes.SlSmallAll
import Derived.Lib.ConvBytes
import Derived.RangeFuncNested
import Derived.RangeFuncBound
import Derived.RangeFuncCalls
import Derived.RangeFuncLeaves
import Derived.Shelf.Abstract
import Derived.Shelf.RegionOpen
import Derived.OwnWalkIn
import Derived.TacticsInMore
import Derived.LoopNIn
import Derived.LoopIn
import Derived.Shelf.Spec.DecodeRune
import Derived.Shelf.Spec.NilArms
import Derived.Test.YtacekpdjapgfcaaGreatDoorProg
import Derived.Lib.RuneBytes
namespace Go.Q
open Go Go.RowKit
def partS : List UInt8 → List UInt8 → Nat
  | x :: a, y :: b => if x = y then partS a b + 1 else 0
  | _, _ => 0
theorem partS_le : ∀ (a b : List UInt8), partS a b ≤ a.length ∧ partS a b ≤ b.length
  | [], b => by simp [partS]
  | x :: a, [] => by simp [partS]
  | x :: a, y :: b => by
    have := partS_le a b
    simp only [partS]
    split <;> simp only [List.length_cons] <;> omega
theorem partS_uniq : ∀ (n : Nat) (a b : List UInt8), n ≤ a.length → n ≤ b.length → (∀ i, i < n → a[i]? = b[i]?) → (n < a.length → n < b.length → a[n]? ≠ b[n]?) → partS a b = n
  | 0, [], b, _, _, _, _ => by simp [partS]
  | 0, x :: a, [], _, _, _, _ => by simp [partS]
  | 0, x :: a, y :: b, _, _, _, h => by
    have := h (by simp) (by simp)
    simp only [List.getElem?_cons_zero, ne_eq, Option.some.injEq] at this
    simp only [partS, if_neg this]
  | n + 1, [], b, h, _, _, _ => by simp at h
  | n + 1, x :: a, [], _, h, _, _ => by simp at h
  | n + 1, x :: a, y :: b, h1, h2, h3, h4 => by
    have h0 := h3 0 (by omega)
    simp only [List.getElem?_cons_zero, Option.some.injEq] at h0
    simp only [List.length_cons] at h1 h2 h4
    have := partS_uniq n a b (by omega) (by omega) (fun i hi => by have := h3 (i + 1) (by omega); simpa only [List.getElem?_cons_succ] using this) (fun g1 g2 => by have := h4 (by omega) (by omega); simpa only [List.getElem?_cons_succ] using this)
    simp only [partS, if_pos h0, this]
def cmpS : List UInt8 → List UInt8 → Int
  | [], [] => 0
  | [], _ :: _ => -1
  | _ :: _, [] => 1
  | x :: a, y :: b => if x = y then cmpS a b else if x.toNat < y.toNat then -1 else 1
theorem cmpS_part : ∀ (a b : List UInt8), cmpS a b = if partS a b < a.length ∧ partS a b < b.length then (if (a.getD (partS a b) 0).toNat < (b.getD (partS a b) 0).toNat then -1 else 1) else if partS a b < b.length then -1 else if partS a b < a.length then 1 else 0
  | [], [] => by simp [partS, cmpS]
  | [], y :: b => by simp [partS, cmpS]
  | x :: a, [] => by simp [partS, cmpS]
  | x :: a, y :: b => by
    have ih := cmpS_part a b
    simp only [partS, cmpS]
    by_cases h : x = y
    · simp only [if_pos h, ih, List.length_cons, Nat.add_lt_add_iff_right, List.getD_cons_succ]
    · simp [if_neg h]
end Go.Q
namespace Go.Proofs.YtacekpdjapgfcaaGreatDoor
open Go Go.RowKit Go.Q
set_option maxRecDepth 20000 in
set_option maxHeartbeats 1000000 in
theorem parted_any (x y : Value) (a b : List UInt8) (w : World) (hx : Bytes w x a) (hy : Bytes w y b) (ha : a.length ≤ 1099511627776) (hb : b.length ≤ 1099511627776) :
    Calls Tryz.prog 188 #[x, y] w fun e w' => e = .returned (.int .i64 (partS a b)) ∧ Fr (fun _ => False) w w' := by
  obtain ⟨ax, cx, rfl, _, _, hx⟩ := Vals.form hx
  obtain ⟨ay, cy, rfl, _, _, hy⟩ := Vals.form hy
  have HX := Lib.hid hx
  have HY := Lib.hid hy
  obtain ⟨m, hm⟩ : ∃ m, m = min a.length b.length := ⟨_, rfl⟩
  have hmin : min (a.length : Int) (b.length : Int) = (m : Int) := by omega
  have HM := Lib.hid hm
  clear hx hy hm
  go_enter Tryz.func188, Tryz.ntmps188
  go_wp2_with fail
  all_goals
    go_loopg [13] m (fun g i wr => ∃ j : Nat, g = m - j ∧ j ≤ m ∧ i = .int .i64 j ∧ (∀ t, t < j → a[t]? = b[t]?) ∧ Fr (fun _ => False) w wr)
    case atStart => exact ⟨0, rfl, Nat.zero_le _, rfl, fun t ht => absurd ht (Nat.not_lt_zero _), Fr.refl _⟩
    case round =>
      obtain ⟨j, hg, hj, rfl, he, F⟩ := hrel
      have HG := Lib.hid hg
      have HE := Lib.hid he
      have hmm := HM.out
      clear hg he
      by_cases hjm : j < m
      · obtain ⟨ba, oa, rfl, ga⟩ := HX.out (by omega)
        obtain ⟨bb, ob, rfl, gb⟩ := HY.out (by omega)
        obtain ⟨xa, hxa⟩ : ∃ x, a[j]? = some x := ⟨_, List.getElem?_eq_getElem (by omega)⟩
        obtain ⟨xb, hxb⟩ : ∃ x, b[j]? = some x := ⟨_, List.getElem?_eq_getElem (by omega)⟩
        have ea := F.cell (ga j xa hxa) (fun h => h)
        have eb := F.cell (gb j xb hxb) (fun h => h)
        have HXA := Lib.hid hxa
        have HXB := Lib.hid hxb
        have q1 : (j : Int) < (a.length : Int) := by omega
        have q2 : (j : Int) < (b.length : Int) := by omega
        have q3 : (0 : Int) ≤ (j : Int) := by omega
        clear ga gb hxa hxb
        by_cases hxx : xa = xb
        · subst hxx
          go_wp2_with fail
          go_quiet (fail)
          go_wp2_with fail
          go_roundg (m - (j + 1))
          case measure => rw [HG.out]; omega
          case rel =>
            refine ⟨j + 1, rfl, by omega, by go_num, fun t ht => ?_, F.drewN _⟩
            rcases Nat.lt_or_ge t j with h | h
            · exact HE.out t h
            · obtain rfl : t = j := by omega
              rw [HXA.out, HXB.out]
        · have q4 : ((xa.toNat : Int) == (xb.toNat : Int)) = false := beq_eq_false_iff_ne.2 (fun e => hxx (UInt8.toNat_inj.1 (by omega)))
          go_wp2_with fail
          go_quiet (fail)
          go_wp2_with fail
          go_ret
          have hp := partS_uniq j a b (by omega) (by omega) HE.out (fun _ _ => by rw [HXA.out, HXB.out]; intro e; exact hxx (Option.some.inj e))
          exact ⟨by rw [hp]; rfl, F.drewN _⟩
      · obtain rfl : j = m := by omega
        have hp := partS_uniq j a b (by omega) (by omega) HE.out (fun h1 h2 => by omega)
        have HP := Lib.hid hp
        clear hp
        first | (have q : ¬ (j : Int) < (b.length : Int) := by omega) | (have q : ¬ (j : Int) < (a.length : Int) := by omega) | (have q : ¬ (j : Int) < ((min a.length b.length : Nat) : Int) := by omega)
        go_wp2_with fail
        go_ret
        refine ⟨?_, F⟩
        rw [HP.out]
        first | (rw [show (j : Int) = (b.length : Int) from by omega]; rfl) | (rw [show (j : Int) = (a.length : Int) from by omega]; rfl) | (rw [show (j : Int) = ((min a.length b.length : Nat) : Int) from by omega]; rfl)
set_option maxRecDepth 20000 in
set_option maxHeartbeats 1000000 in
theorem compare_any (x y : Value) (a b : List UInt8) (w : World) (hx : Bytes w x a) (hy : Bytes w y b) (ha : a.length ≤ 1099511627776) (hb : b.length ≤ 1099511627776) :
    Calls Tryz.prog 146 #[x, y] w fun e w' => e = .returned (.int .i64 (cmpS a b)) ∧ Fr (fun _ => False) w w' := by
  have HP := Lib.hid (parted_any x y a b w hx hy ha hb)
  obtain ⟨ax, cx, rfl, _, _, hx⟩ := Vals.form hx
  obtain ⟨ay, cy, rfl, _, _, hy⟩ := Vals.form hy
  have HX := Lib.hid hx
  have HY := Lib.hid hy
  have hc := cmpS_part a b
  obtain ⟨n, hn⟩ : ∃ n, n = partS a b := ⟨_, rfl⟩
  obtain ⟨l1, l2⟩ := partS_le a b
  rw [← hn] at hc HP l1 l2
  clear hx hy hn
  go_enter Tryz.func146, Tryz.ntmps146
  go_wp2_with fail
  refine HP.out.mono ?_
  rintro e w1 ⟨rfl, F1⟩
  have HF := Lib.hid F1
  by_cases h1 : n < a.length
  · have q1 : (n : Int) < (a.length : Int) := by omega
    by_cases h2 : n < b.length
    · have q2 : (n : Int) < (b.length : Int) := by omega
      rw [if_pos ⟨h1, h2⟩] at hc
      obtain ⟨ba, oa, rfl, ga⟩ := HX.out (by omega)
      obtain ⟨bb, ob, rfl, gb⟩ := HY.out (by omega)
      obtain ⟨xa, hxa⟩ : ∃ x, a[n]? = some x := ⟨_, List.getElem?_eq_getElem (by omega)⟩
      obtain ⟨xb, hxb⟩ : ∃ x, b[n]? = some x := ⟨_, List.getElem?_eq_getElem (by omega)⟩
      have ea := F1.cell (ga n xa hxa) (fun h => h)
      have eb := F1.cell (gb n xb hxb) (fun h => h)
      rw [List.getD_eq_getElem?_getD, List.getD_eq_getElem?_getD, hxa, hxb, Option.getD_some, Option.getD_some] at hc
      have q3 : (0 : Int) ≤ (n : Int) := by omega
      by_cases h3 : xa.toNat < xb.toNat
      · rw [if_pos h3] at hc
        have HC := Lib.hid hc
        have q4 : (xa.toNat : Int) < (xb.toNat : Int) := by omega
        clear ga gb hxa hxb hc F1
        go_wp2_with fail
        go_quiet (fail)
        go_wp2_with fail
        go_ret
        exact ⟨by rw [HC.out]; rfl, HF.out.drewN _⟩
      · rw [if_neg h3] at hc
        have HC := Lib.hid hc
        have q4 : ¬ (xa.toNat : Int) < (xb.toNat : Int) := by omega
        clear ga gb hxa hxb hc F1
        go_wp2_with fail
        go_quiet (fail)
        go_wp2_with fail
        go_ret
        exact ⟨by rw [HC.out]; rfl, HF.out.drewN _⟩
    · have q2 : ¬ (n : Int) < (b.length : Int) := by omega
      rw [if_neg (fun h => h2 h.2), if_neg h2, if_pos h1] at hc
      have HC := Lib.hid hc
      clear hc F1
      go_wp2_with fail
      go_ret
      exact ⟨by rw [HC.out]; rfl, HF.out⟩
  · have q1 : ¬ (n : Int) < (a.length : Int) := by omega
    rw [if_neg (fun h => h1 h.1)] at hc
    by_cases h2 : n < b.length
    · have q2 : (n : Int) < (b.length : Int) := by omega
      rw [if_pos h2] at hc
      have HC := Lib.hid hc
      clear hc F1
      go_wp2_with fail
      go_ret
      exact ⟨by rw [HC.out]; rfl, HF.out⟩
    · have q2 : ¬ (n : Int) < (b.length : Int) := by omega
      rw [if_neg h2, if_neg h1] at hc
      have HC := Lib.hid hc
      clear hc F1
      go_wp2_with fail
      go_ret
      exact ⟨by rw [HC.out]; rfl, HF.out⟩
end Go.Proofs.YtacekpdjapgfcaaGreatDoor

namespace Go.Q
open Go Go.RowKit
structure Part where
  o : List Int
  b : List UInt8
def Attrs (w : World) (v : Value) (l : List Part) : Prop :=
  ∃ a cap, v = .slice a l.length cap ∧ l.length ≤ cap ∧ cap ≤ maxLen ∧ (0 < l.length → ∃ b o, a = some ⟨b, o, none⟩ ∧ ∀ i p, l[i]? = some p → ∃ x y, w.cell? ⟨b, o + 2 * i, none⟩ = some x ∧ w.cell? ⟨b, o + 2 * i + 1, none⟩ = some y ∧ Vals w x (intCells p.o) ∧ Bytes w y p.b)
theorem Attrs.old {w w' : World} {v : Value} {l : List Part} (h : Attrs w v l) (f : Fr (fun _ => False) w w') : Attrs w' v l := by
  obtain ⟨a, cap, rfl, h1, h2, h3⟩ := h
  refine ⟨a, cap, rfl, h1, h2, fun h0 => ?_⟩
  obtain ⟨b, o, rfl, hy⟩ := h3 h0
  refine ⟨b, o, rfl, fun i p hp => ?_⟩
  obtain ⟨x, y, e1, e2, e3, e4⟩ := hy i p hp
  exact ⟨x, y, f.cell e1 (fun h => h), f.cell e2 (fun h => h), e3.old f, e4.old f⟩
def NameAt (w : World) (v : Value) (l : List (List Part)) : Prop :=
  ∃ a cap, v = .slice a l.length cap ∧ l.length ≤ cap ∧ cap ≤ maxLen ∧ (0 < l.length → ∃ b o, a = some ⟨b, o, none⟩ ∧ ∀ i r, l[i]? = some r → ∃ x, w.cell? ⟨b, o + i, none⟩ = some x ∧ Attrs w x r)
theorem NameAt.old {w w' : World} {v : Value} {l : List (List Part)} (h : NameAt w v l) (f : Fr (fun _ => False) w w') : NameAt w' v l := by
  obtain ⟨a, cap, rfl, h1, h2, h3⟩ := h
  refine ⟨a, cap, rfl, h1, h2, fun h0 => ?_⟩
  obtain ⟨b, o, rfl, hy⟩ := h3 h0
  refine ⟨b, o, rfl, fun i p hp => ?_⟩
  obtain ⟨x, e1, e2⟩ := hy i p hp
  exact ⟨x, f.cell e1 (fun h => h), e2.old f⟩
def stepsS (last : Option (List UInt8)) : List Part → Option (List (List UInt8))
  | [] => some []
  | p :: t =>
    match attrS p.o p.b with
    | none => none
    | some x => if (match last with | some y => decide (0 ≤ cmpS y x) | none => false) = true then none else (stepsS (some x) t).map (x :: ·)
def rdnS (l : List Part) : Option (List (List UInt8)) := if l.length = 0 ∨ 16 < l.length then none else stepsS none l
def fewB (l : List Part) : Prop := ∀ p ∈ l, p.b.length ≤ 10000000
theorem set2 {w : World} {z : Nat} {t : TypeId} {c1 c2 : Value} (B : Blk w z t #[c1, c2]) (v1 v2 : Value) : Blk ((w.setCell ⟨z, 0, none⟩ v1).setCell ⟨z, 1, none⟩ v2) z t #[v1, v2] ∧ Fr (fun k => k = z) w ((w.setCell ⟨z, 0, none⟩ v1).setCell ⟨z, 1, none⟩ v2) := by
  refine ⟨?_, ?_⟩
  · have := (B.set 0 v1).set 1 v2
    simpa using this
  · exact Fr.setCell (S := fun k => k = z) (p := ⟨z, 1, none⟩) (Fr.setCell (S := fun k => k = z) (p := ⟨z, 0, none⟩) (Fr.refl w) (fun _ => rfl) _) (fun _ => rfl) _
end Go.Q
namespace Go.Proofs.YtacekpdjapgfcaaGreatDoor
open Go Go.RowKit Go.Q
def Row (w : World) (base : Nat) (v : Value) (ws : List (List UInt8)) : Prop :=
  ∃ us, w.ownsRow base 23 1 v ws.length us ∧ us.length = ws.length ∧ ∀ (i : Nat) (u : Value) (x : List UInt8), us[i]? = some u → ws[i]? = some x → BytesK w (fun k => v.ownBlock = some k) u x
theorem Row.old {w w' : World} {base : Nat} {v : Value} {ws : List (List UInt8)} (h : Row w base v ws) (f : Fr (fun _ => False) w w') : Row w' base v ws := by
  obtain ⟨us, h1, h2, h3⟩ := h
  exact ⟨us, ownsRow_fr h1 f (fun _ _ h => h), h2, fun i u l hu hl => (h3 i u l hu hl).old f⟩
theorem Row.nil (w : World) (base : Nat) : Row w base (.slice none 0 0) [] := ⟨[], ⟨rfl, .inl ⟨rfl, rfl⟩⟩, rfl, fun i u l hu => by simp at hu⟩
theorem Row.add {w : World} {base : Nat} {v : Value} {ws : List (List UInt8)} (h : Row w base v ws) (g : Nat) (u : Value) (x : List UInt8) (B : Blk w g 23 #[u]) (hu : Bytes w u x) (hou : ∀ k, u.ownBlock = some k → v.ownBlock ≠ some k) (hsz : ws.length ≤ 2000000000000) (hb : base ≤ w.heap.size) :
    ∃ a c w', (Builtin.append_ #[136, 136] 136 #[v, .slice (some ⟨g, 0, none⟩) 1 1]).run Tryz.prog w = .ok (.slice a (ws.length + 1) c) w' ∧ Row w' base (.slice a (ws.length + 1) c) (ws ++ [x]) ∧ Fr (fun k => v.ownBlock = some k) w w' := by
  obtain ⟨us, h1, h2, h3⟩ := h
  obtain ⟨a, c, rfl, hc⟩ := hu.form
  have hu1 : Bytes w (.slice a x.length c) x := hu
  obtain ⟨v', w', hr, h4, h5, h6⟩ := append_one h1 g _ B rfl hsz hb
  obtain ⟨a', m', c', rfl, rfl⟩ := own_shape h4
  have hK : ∀ k, (Value.slice a' (ws.length + 1) c').ownBlock = some k → v.ownBlock = some k ∨ w.heap.size ≤ k := fun k hk => by
    rcases h6 with h | h
    · exact .inl (by rw [← h]; exact hk)
    · rw [h] at hk
      cases hk
      exact .inr (Nat.le_refl _)
  refine ⟨a', c', w', hr, ⟨us ++ [.slice a x.length c], by simpa using h4, by simp [h2], fun i u y hi hy => ?_⟩, h5⟩
  have hlt : i < ws.length + 1 := by have := (List.getElem?_eq_some_iff.1 hy).1; simpa using this
  rcases Nat.lt_or_ge i ws.length with hi2 | hi2
  · rw [List.getElem?_append_left (by omega)] at hi hy
    exact (h3 i u y hi hy).fr h5 (fun _ _ h => h) hK
  · obtain rfl : i = ws.length := by omega
    rw [List.getElem?_append_right (by omega)] at hi hy
    simp [h2] at hi
    simp at hy
    subst hi; subst hy
    exact ValsK.fr (K := fun k => v.ownBlock = some k) ⟨hu1, fun _ k hk e => hou k hk e⟩ h5 (fun _ _ h => h) hK
theorem stepsS_split (l : List Part) (j : Nat) (p : Part) (hp : l[j]? = some p) (last : Option (List UInt8)) : stepsS last (l.drop j) = match attrS p.o p.b with | none => none | some x => if (match last with | some y => decide (0 ≤ cmpS y x) | none => false) = true then none else (stepsS (some x) (l.drop (j + 1))).map (x :: ·) := by
  have : l.drop j = p :: l.drop (j + 1) := by
    obtain ⟨h, rfl⟩ := List.getElem?_eq_some_iff.1 hp
    exact List.drop_eq_getElem_cons h
  rw [this]
  rfl
end Go.Proofs.YtacekpdjapgfcaaGreatDoor

namespace Go.Q
open Go Go.RowKit
theorem two_of {α : Type} {l : List α} (h : l.length = 2) : ∃ a b, l = [a, b] := by
  match l, h with
  | [a, b], _ => exact ⟨a, b, rfl⟩
theorem list_of {α : Type} {p : Nat → α → Prop} : ∀ n, (∀ i, i < n → ∃ a, p i a) → ∃ l : List α, l.length = n ∧ ∀ i a, l[i]? = some a → p i a
  | 0, _ => ⟨[], rfl, fun i a h => by simp at h⟩
  | n + 1, h => by
    obtain ⟨l, hl, hp⟩ := list_of n (fun i hi => h i (by omega))
    obtain ⟨a, ha⟩ := h n (by omega)
    refine ⟨l ++ [a], by simp [hl], fun i b hb => ?_⟩
    rcases Nat.lt_or_ge i l.length with hi | hi
    · rw [List.getElem?_append_left hi] at hb
      exact hp i b hb
    · rw [List.getElem?_append_right hi] at hb
      have h0 : i - l.length = 0 := by
        have := (List.getElem?_eq_some_iff.1 hb).1
        simp at this
        omega
      rw [h0] at hb
      simp only [List.getElem?_cons_zero, Option.some.injEq] at hb
      subst hb
      obtain rfl : i = n := by omega
      exact ha
end Go.Q
namespace Go.Proofs.YtacekpdjapgfcaaGreatDoor
open Go Go.RowKit Go.Q Go.ChangeShapes Go.WideShapes Go.ChangeAt
section
variable {H : Type} {enc : TypeId × Value → H} {P : Program} {w : World} {base fuel : Nat} {spare : Nat → Bool} {held : Bool} {cs : List Value} {x : DataW H × List MemPlace}
theorem rd_slice {α : Type} {t e : TypeId} {c : Nat} (ht : P.underlying t = some (.slice e)) (hc : P.cellsOf e = c) (hc0 : 0 < c) (R : α → List Value → Prop)
    (hR : ∀ n cs x, DataW.trod enc P w base spare held n e cs = some x → cs.length = c → ∃ a, R a cs) (h : DataW.trod enc P w base spare held fuel t cs = some x) :
    ∃ (a : Option Addr) (cap : Nat) (l : List α), cs = [.slice a l.length cap] ∧ l.length ≤ cap ∧ cap ≤ maxLen ∧ (0 < l.length → ∃ b o, a = some ⟨b, o, none⟩ ∧ ∀ i u, l[i]? = some u → ∃ ds, ds.length = c ∧ R u ds ∧ ∀ j v, ds[j]? = some v → w.cell? ⟨b, o + c * i + j, none⟩ = some v) := by
  rcases Go.Deep.open_slice ht h with ⟨rfl, _⟩ | ⟨a, len, cap, m, n, D, Pl, rfl, _, hl, hm, hmm, _, hx⟩
  · exact ⟨none, 0, [], rfl, Nat.le_refl _, Nat.zero_le _, fun h => absurd h (Nat.lt_irrefl _)⟩
  · have hlm : len ≤ m := by rw [hmm]; split <;> omega
    obtain ⟨l, hll, hp⟩ := list_of (p := fun i u => ∃ ds : List Value, ds.length = c ∧ R u ds ∧ ∀ j v, ds[j]? = some v → w.cell? ((a.add (i * c)).add j) = some v) len (fun i hi => by
      obtain ⟨ds, h1, h2⟩ := hx i (by omega)
      obtain ⟨_, h3, h4⟩ := World.cells?_some h1
      rw [hc] at h1 h3 h4
      obtain ⟨u, hu⟩ := hR n ds _ h2 h3
      refine ⟨u, ds, h3, hu, fun j v hj => ?_⟩
      have hjl : j < c := by rw [← h3]; exact (List.getElem?_eq_some_iff.1 hj).1
      have := h4 j hjl
      rw [this, ← hj])
    refine ⟨some a, cap, l, by rw [hll], by omega, hm, fun h0 => ?_⟩
    obtain ⟨u, hu⟩ : ∃ u, l[0]? = some u := ⟨_, List.getElem?_eq_getElem h0⟩
    obtain ⟨ds, hd1, _, hd2⟩ := hp 0 u hu
    obtain ⟨v, hv⟩ : ∃ v, ds[0]? = some v := ⟨_, List.getElem?_eq_getElem (by omega)⟩
    have sp : a.spot = none := by
      have := World.cell?_spot (hd2 0 v hv)
      simpa [Addr.add] using this
    obtain ⟨b, o, spt⟩ := a
    simp only at sp
    subst sp
    refine ⟨b, o, rfl, fun i u hu => ?_⟩
    obtain ⟨ds, hd1, hd2, hd3⟩ := hp i u hu
    refine ⟨ds, hd1, hd2, fun j v hj => ?_⟩
    have := hd3 j v hj
    rw [show ((⟨b, o, none⟩ : Addr).add (i * c)).add j = ⟨b, o + c * i + j, none⟩ from by unfold Addr.add; split <;> split <;> simp_all [Nat.mul_comm]] at this
    exact this
end
section
variable {H : Type} {enc : TypeId × Value → H} {w : World} {base fuel : Nat} {spare : Nat → Bool} {held : Bool} {cs : List Value} {x : DataW H × List MemPlace}
theorem rc3 : Tryz.prog.cellsOf 3 = 1 := by kernel_rfl
theorem rc5 : Tryz.prog.cellsOf 5 = 1 := by kernel_rfl
theorem rc105 : Tryz.prog.cellsOf 105 = 1 := by kernel_rfl
theorem rc23 : Tryz.prog.cellsOf 23 = 1 := by kernel_rfl
theorem rd_ints (h : DataW.trod enc Tryz.prog w base spare held fuel 105 cs = some x) : ∃ v l, cs = [v] ∧ Ints w v l := by
  obtain ⟨a, cap, l, rfl, h1, h2, h3⟩ := rd_slice Tryz.underlying105 rc3 (by decide) (fun (n : Int) ds => ds = [.int .i64 n]) (fun n ds y hy _ => by
    obtain ⟨k, e, -, -⟩ := DataW.trod_int Tryz.underlying3 hy
    exact ⟨k, e⟩) h
  refine ⟨_, l, rfl, a, cap, by rw [intCells_len], by rw [intCells_len]; exact h1, h2, fun h0 => ?_⟩
  rw [intCells_len] at h0
  obtain ⟨b, o, rfl, hy⟩ := h3 h0
  refine ⟨b, o, rfl, fun i u hu => ?_⟩
  unfold intCells at hu
  rw [List.getElem?_map] at hu
  cases hl : l[i]? with
  | none => rw [hl] at hu; cases hu
  | some n =>
    rw [hl] at hu
    simp only [Option.map_some, Option.some.injEq] at hu
    obtain ⟨ds, _, rfl, hj⟩ := hy i n hl
    have := hj 0 _ rfl
    simp only [Nat.one_mul, Nat.add_zero] at this
    rw [this, hu]
theorem rd_bytes (h : DataW.trod enc Tryz.prog w base spare held fuel 23 cs = some x) : ∃ v l, cs = [v] ∧ Bytes w v l := by
  obtain ⟨a, cap, l, rfl, h1, h2, h3⟩ := rd_slice Tryz.underlying23 rc5 (by decide) (fun (n : UInt8) ds => ds = [.int .u8 n.toNat]) (fun n ds y hy _ => by
    obtain ⟨k, e, -, hw⟩ := DataW.trod_int Tryz.underlying5 hy
    have hb := bounds_u8 hw
    refine ⟨UInt8.ofNat k.toNat, ?_⟩
    rw [e, Go.Q.u8 k.toNat (by omega), show ((k.toNat : Nat) : Int) = k from by omega]) h
  refine ⟨_, l, rfl, a, cap, by rw [byteCells_len], by rw [byteCells_len]; exact h1, h2, fun h0 => ?_⟩
  rw [byteCells_len] at h0
  obtain ⟨b, o, rfl, hy⟩ := h3 h0
  refine ⟨b, o, rfl, fun i u hu => ?_⟩
  rw [byteCells_get] at hu
  cases hl : l[i]? with
  | none => rw [hl] at hu; cases hu
  | some n =>
    rw [hl] at hu
    simp only [Option.map_some, Option.some.injEq] at hu
    obtain ⟨ds, _, rfl, hj⟩ := hy i n hl
    have := hj 0 _ rfl
    simp only [Nat.one_mul, Nat.add_zero] at this
    rw [this, hu]
end
end Go.Proofs.YtacekpdjapgfcaaGreatDoor

namespace Go.Proofs.YtacekpdjapgfcaaGreatDoor
open Go Go.RowKit Go.Q Go.ChangeShapes Go.WideShapes Go.ChangeAt
section
variable {H : Type} {enc : TypeId × Value → H} {w : World} {base fuel : Nat} {spare : Nat → Bool} {held : Bool} {cs : List Value} {x : DataW H × List MemPlace}
theorem rc107 : Tryz.prog.cellsOf 107 = 2 := by kernel_rfl
theorem rc92 : Tryz.prog.cellsOf 92 = 1 := by kernel_rfl
theorem rd_attr (h : DataW.trod enc Tryz.prog w base spare held fuel 107 cs = some x) (hl : cs.length = 2) : ∃ p : Part, ∃ v u, cs = [v, u] ∧ Ints w v p.o ∧ Bytes w u p.b := by
  obtain ⟨y0, y1, n, _, -, h0, h1⟩ := Go.ChangeShapes.trod_struct2 Tryz.underlying107 h
  obtain ⟨c0, c1, rfl⟩ := two_of hl
  have g0 : DataW.trod enc Tryz.prog w base spare held n 105 [c0] = some y0 := by rw [← show ([c0, c1].drop 0).take (Tryz.prog.cellsOf 105) = [c0] from by rw [rc105]; rfl]; exact h0
  have g1 : DataW.trod enc Tryz.prog w base spare held n 23 [c1] = some y1 := by rw [← show ([c0, c1].drop 1).take (Tryz.prog.cellsOf 23) = [c1] from by rw [rc23]; rfl]; exact h1
  obtain ⟨v, o, e0, ho⟩ := rd_ints g0
  obtain ⟨u, b, e1, hb⟩ := rd_bytes g1
  simp only [List.cons.injEq, and_true] at e0 e1
  subst e0; subst e1
  exact ⟨⟨o, b⟩, c0, c1, rfl, ho, hb⟩
theorem rd_attrs (h : DataW.trod enc Tryz.prog w base spare held fuel 92 cs = some x) : ∃ v l, cs = [v] ∧ Attrs w v l := by
  obtain ⟨a, cap, l, rfl, h1, h2, h3⟩ := rd_slice Tryz.underlying92 rc107 (by decide) (fun (p : Part) ds => ∃ v u, ds = [v, u] ∧ Ints w v p.o ∧ Bytes w u p.b) (fun n ds y hy hl => rd_attr hy hl) h
  refine ⟨_, l, rfl, a, cap, rfl, h1, h2, fun h0 => ?_⟩
  obtain ⟨b, o, rfl, hy⟩ := h3 h0
  refine ⟨b, o, rfl, fun i p hp => ?_⟩
  obtain ⟨ds, _, ⟨v, u, rfl, hv, hu⟩, hj⟩ := hy i p hp
  exact ⟨v, u, hj 0 _ rfl, hj 1 _ rfl, hv, hu⟩
theorem rd_name (h : DataW.trod enc Tryz.prog w base spare held fuel 22 cs = some x) : ∃ v n, cs = [v] ∧ NameAt w v n := by
  obtain ⟨a, cap, l, rfl, h1, h2, h3⟩ := rd_slice Tryz.underlying22 rc92 (by decide) (fun (r : List Part) ds => ∃ v, ds = [v] ∧ Attrs w v r) (fun n ds y hy _ => by
    obtain ⟨v, l, e, hl⟩ := rd_attrs hy
    exact ⟨l, v, e, hl⟩) h
  refine ⟨_, l, rfl, a, cap, rfl, h1, h2, fun h0 => ?_⟩
  obtain ⟨b, o, rfl, hy⟩ := h3 h0
  refine ⟨b, o, rfl, fun i r hr => ?_⟩
  obtain ⟨ds, _, ⟨v, rfl, hv⟩, hj⟩ := hy i r hr
  have := hj 0 _ rfl
  rw [Nat.one_mul, Nat.add_zero] at this
  exact ⟨v, this, hv⟩
end
end Go.Proofs.YtacekpdjapgfcaaGreatDoor

namespace Go.Proofs.YtacekpdjapgfcaaGreatDoor
open Go Go.RowKit Go.Q
set_option linter.unusedSimpArgs false
def rTagV (p : Nat) : Except Int (Tag × Nat) → Value
  | .error e => .tuple #[tagV ⟨0, 0, false⟩, .int .i64 p, .int .i64 e]
  | .ok (t, k) => .tuple #[tagV t, .int .i64 ((p + k : Nat) : Int), .int .i64 0]
theorem numS_next {i n : Nat} {l : List UInt8} {x : UInt8} {t : List UInt8} (h : l = x :: t) : numS i n l = if (i = 0 ∧ x.toNat = 128) ∨ i = 3 then .error 4 else if x.toNat < 128 then (if n * 128 + x.toNat % 128 < 31 then .error 4 else .ok (n * 128 + x.toNat % 128, i + 1)) else numS (i + 1) (n * 128 + x.toNat % 128) t := by
  rw [h]
  simp only [numS]
theorem drop_get {α : Type} {l : List α} {j : Nat} {x : α} (hx : l[j]? = some x) : l.drop j = x :: l.drop (j + 1) := by
  obtain ⟨h, rfl⟩ := List.getElem?_eq_some_iff.1 hx
  exact List.drop_eq_getElem_cons h
set_option maxRecDepth 20000 in
set_option maxHeartbeats 2000000 in
theorem r02ReadTag_any (v : Value) (l : List UInt8) (p : Nat) (w : World) (h : Bytes w v l) (hp : p ≤ l.length) (hlm : l.length ≤ 1099511627776) :
    Calls Tryz.prog 121 #[v, .int .i64 p] w fun e w' => e = .returned (rTagV p (readTagS (l.drop p))) ∧ Fr (fun _ => False) w w' := by
  obtain ⟨a, cap, rfl, -, -, hx⟩ := h.form
  obtain ⟨z, hz⟩ : ∃ z, z = w.heap.size := ⟨_, rfl⟩
  have BZ := Blk.new w 86 #[.int .i64 0, .int .i64 0, .bool false]
  have F0 : Fr (fun _ => False) w (w.alloc (.cells #[.int .i64 0, .int .i64 0, .bool false] 86)) := (Fr.refl w).alloc _
  rw [← hz] at BZ
  have hzw : ∀ k, k < w.heap.size → k = z → False := fun k hk e => by omega
  have HZ := Lib.hid hz
  have HX := Lib.hid hx
  have HF0 := Lib.hid F0
  have HZW := Lib.hid hzw
  clear h hx hz F0 hzw
  rcases Nat.lt_or_ge p l.length with hpl | hpl
  case inr =>
    obtain rfl : p = l.length := by omega
    have hn : readTagS (l.drop l.length) = .error 3 := by rw [List.drop_length]; rfl
    have HN := Lib.hid hn
    clear hn
    go_enter Tryz.func121, Tryz.ntmps121
    go_upto_region 1 with fail
    rw [← HZ.out]
    generalize (w.alloc (.cells #[.int .i64 0, .int .i64 0, .bool false] 86)) = w0 at *
    have SZ := BZ.cell
    have ZZ := BZ.frozen
    go_wp2_with fail
    obtain ⟨B5, F5⟩ := set3 BZ (.int .i64 0) (.int .i64 0) (.bool false)
    generalize (((w0.setCell ⟨z, 0, none⟩ (.int .i64 0)).setCell ⟨z, 1, none⟩ (.int .i64 0)).setCell ⟨z, 2, none⟩ (.bool false)) = w5 at *
    have n0 := B5.cell 0
    have n1 := B5.cell 1
    have n2 := B5.cell 2
    simp at n0 n1 n2
    refine bodyPost_ret (v := .tuple #[.agg #[.int .i64 0, .int .i64 0, .bool false], .int .i64 l.length, .int .i64 3]) (by simp [results, Tryz.results121, go_sem, n0, n1, n2]) rfl ?_
    exact ⟨by rw [HN.out]; rfl, HF0.out.trans' F5 HZW.out⟩
  case inl =>
    obtain ⟨b, o, rfl, hy⟩ := HX.out (by omega)
    obtain ⟨x, hxp⟩ : ∃ x, l[p]? = some x := ⟨_, List.getElem?_eq_getElem hpl⟩
    have ex := HF0.out.cell (hy p x hxp) (fun h => h)
    have hdp := drop_get hxp
    have hx256 := x.toNat_lt
    obtain ⟨y, hyy⟩ : ∃ y, y = x.toNat := ⟨_, rfl⟩
    rw [← hyy] at ex hx256
    have hT : readTagS (l.drop p) = if y % 32 < 31 then .ok (⟨y / 64, y % 32, decide (y / 32 % 2 = 1)⟩, 1) else
      match numS 0 0 (l.drop (p + 1)) with
      | .error e => .error e
      | .ok (n, k) => .ok (⟨y / 64, n, decide (y / 32 % 2 = 1)⟩, k + 1) := by rw [hdp, hyy]; rfl
    have HT := Lib.hid hT
    have HY := Lib.hid hy
    have HYY := Lib.hid hyy
    have r0 : (0 : Int) ≤ (p : Int) := by omega
    have r1 : (p : Int) < (l.length : Int) := by omega
    clear hy hyy hdp hT hxp
    go_enter Tryz.func121, Tryz.ntmps121
    go_upto_region 1 with fail
    rw [← HZ.out]
    generalize (w.alloc (.cells #[.int .i64 0, .int .i64 0, .bool false] 86)) = w0 at *
    go_upto_region 5 with fail
    obtain ⟨c1, hc1⟩ : ∃ c : Int, (y : Int) / 64 = c := ⟨_, rfl⟩
    obtain ⟨c2, hc2⟩ : ∃ c : Int, (y : Int) % 32 = c := ⟨_, rfl⟩
    obtain ⟨c3, hc3⟩ : ∃ c : Bool, ((y : Int) / 32 % 2 == 1) = c := ⟨_, rfl⟩
    have h3 : decide (y / 32 % 2 = 1) = c3 := by
      rw [← hc3, Bool.eq_iff_iff]
      simp
      omega
    rw [h3] at HT
    rw [hc1, hc2, hc3]
    rw [hc1] at HT
    rw [hc2] at HT
    obtain ⟨d, hd⟩ : ∃ d, d = w0.heap.size := ⟨_, rfl⟩
    have BD := Blk.new w0 86 #[.int .i64 c1, .int .i64 c2, .bool c3]
    have F1 : Fr (fun _ => False) w0 (w0.alloc (.cells #[.int .i64 c1, .int .i64 c2, .bool c3] 86)) := (Fr.refl w0).alloc _
    have hzl := BZ.lt
    replace BZ := BZ.fr F1 (fun h => h)
    have HF1 := Lib.hid (HF0.out.trans F1)
    rw [← hd] at BD ⊢
    have hdz : d ≠ z := by omega
    have hdw : ∀ k, k < w.heap.size → k = d → False := fun k hk e => by have := HF0.out.size; omega
    have HDW := Lib.hid hdw
    clear hd F1 hzl hdw h3 hc3 ex HF0
    generalize (w0.alloc (.cells #[.int .i64 c1, .int .i64 c2, .bool c3] 86)) = w1 at *
    have SD := BD.cell
    have SZ := BZ.cell
    have ZD := BD.frozen
    have ZZ := BZ.frozen
    by_cases h31 : y % 32 < 31
    · have q1 : c2 < 31 := by omega
      have hres : readTagS (l.drop p) = .ok (⟨c1, c2, c3⟩, 1) := by rw [HT.out, if_pos h31]
      have HR := Lib.hid hres
      clear hres
      go_wp2_with fail
      obtain ⟨B5, F5⟩ := set3 BZ (.int .i64 c1) (.int .i64 c2) (.bool c3)
      generalize (((w1.setCell ⟨z, 0, none⟩ (.int .i64 c1)).setCell ⟨z, 1, none⟩ (.int .i64 c2)).setCell ⟨z, 2, none⟩ (.bool c3)) = w5 at *
      have n0 := B5.cell 0
      have n1 := B5.cell 1
      have n2 := B5.cell 2
      simp at n0 n1 n2
      refine bodyPost_ret (v := .tuple #[.agg #[.int .i64 c1, .int .i64 c2, .bool c3], .int .i64 ((p : Int) + 1), .int .i64 0]) (by simp [results, Tryz.results121, go_sem, n0, n1, n2]) rfl ?_
      exact ⟨by rw [HR.out]; rfl, HF1.out.trans' F5 HZW.out⟩
    · have q1 : ¬ c2 < 31 := by omega
      have hres : readTagS (l.drop p) = match numS 0 0 (l.drop (p + 1)) with
          | .error e => .error e
          | .ok (n, k) => .ok (⟨c1, n, c3⟩, k + 1) := by rw [HT.out, if_neg h31]
      have HR := Lib.hid hres
      have HBZ := Lib.hid BZ
      have HBD := Lib.hid BD
      clear hres HT
      go_wp2_with fail
      clear SD SZ ZD ZZ BZ BD
      go_loopg [9, 10] 4 (fun g n i wr => ∃ (k m : Nat), g = 4 - k ∧ k ≤ 3 ∧ m < 128 ^ k ∧ n = .int .i64 m ∧ i = .int .i64 ((k : Int) + 1) ∧ numS 0 0 (l.drop (p + 1)) = numS k m (l.drop (p + 1 + k)) ∧ wr = w1)
      case atStart => exact ⟨0, 0, rfl, by omega, by simp, rfl, rfl, rfl, rfl⟩
      case round =>
        obtain ⟨k, m, hg, hk, hm, rfl, rfl, hN, rfl⟩ := hrel
        have HG := Lib.hid hg
        have HN := Lib.hid hN
        have HM := Lib.hid hm
        have BZ := HBZ.out
        have BD := HBD.out
        have SD := BD.cell
        have ZD := BD.frozen
        have SZ := BZ.cell
        have ZZ := BZ.frozen
        clear hg hN hm
        rcases Nat.lt_or_ge (p + 1 + k) l.length with hkl | hkl
        case inr =>
          have q2 : (l.length : Int) ≤ (p : Int) + ((k : Int) + 1) := by omega
          have hres : readTagS (l.drop p) = .error 3 := by
            have hdn : l.drop (p + 1 + k) = [] := List.drop_eq_nil_of_le hkl
            rw [HR.out, HN.out, hdn]
            rfl
          have HRES := Lib.hid hres
          clear hres
          go_wp2_with fail
          obtain ⟨B5, F5⟩ := set3 BZ (.int .i64 0) (.int .i64 0) (.bool false)
          generalize (((wr.setCell ⟨z, 0, none⟩ (.int .i64 0)).setCell ⟨z, 1, none⟩ (.int .i64 0)).setCell ⟨z, 2, none⟩ (.bool false)) = w5 at *
          have n0 := B5.cell 0
          have n1 := B5.cell 1
          have n2 := B5.cell 2
          simp at n0 n1 n2
          refine bodyPost_ret (v := .tuple #[.agg #[.int .i64 0, .int .i64 0, .bool false], .int .i64 p, .int .i64 3]) (by simp [results, Tryz.results121, go_sem, n0, n1, n2]) rfl ?_
          exact ⟨by rw [HRES.out]; rfl, HF1.out.trans' F5 HZW.out⟩
        case inl =>
          have q2 : ¬ (l.length : Int) ≤ (p : Int) + ((k : Int) + 1) := by omega
          obtain ⟨x2, hx2⟩ : ∃ x, l[p + 1 + k]? = some x := ⟨_, List.getElem?_eq_getElem hkl⟩
          have e2 := HF1.out.cell (HY.out (p + 1 + k) x2 hx2) (fun h => h)
          have hN2 := HN.out
          rw [numS_next (drop_get hx2)] at hN2
          obtain ⟨y2, hy2⟩ : ∃ y, y = x2.toNat := ⟨_, rfl⟩
          have hy256 : y2 < 256 := by rw [hy2]; exact x2.toNat_lt
          rw [← hy2] at e2 hN2
          rw [show o + (p + 1 + k) = o + (p + (k + 1)) from by omega] at e2
          have hin : ((p : Int) + ((k : Int) + 1)).toNat = p + (k + 1) := by omega
          have r2 : (0 : Int) ≤ (p : Int) + ((k : Int) + 1) := by omega
          have r3 : (p : Int) + ((k : Int) + 1) < (l.length : Int) := by omega
          have HN2 := Lib.hid hN2
          clear hN2 hx2 hy2 HN
          by_cases hb1 : (k = 0 ∧ y2 = 128) ∨ k = 3
          · have hres : readTagS (l.drop p) = .error 4 := by rw [HR.out, HN2.out, if_pos hb1]
            have HRES := Lib.hid hres
            clear hres HN2
            have hcond : ((((k : Int) + 1 == 1) = true ∧ ((y2 : Int) == 128) = true)) ∨ ((((k : Int) + 1 == 1) = false) ∧ ((k : Int) + 1 == 4) = true) := by
              rcases hb1 with ⟨h1, h2⟩ | h1
              · exact .inl ⟨by subst h1; rfl, by subst h2; rfl⟩
              · exact .inr ⟨by subst h1; rfl, by subst h1; rfl⟩
            rcases hcond with ⟨g1, g2⟩ | ⟨g1, g2⟩
            all_goals
              go_wp2_with fail
              obtain ⟨B5, F5⟩ := set3 BZ (.int .i64 0) (.int .i64 0) (.bool false)
              generalize (((wr.setCell ⟨z, 0, none⟩ (.int .i64 0)).setCell ⟨z, 1, none⟩ (.int .i64 0)).setCell ⟨z, 2, none⟩ (.bool false)) = w5 at *
              have n0 := B5.cell 0
              have n1 := B5.cell 1
              have n2 := B5.cell 2
              simp at n0 n1 n2
              refine bodyPost_ret (v := .tuple #[.agg #[.int .i64 0, .int .i64 0, .bool false], .int .i64 p, .int .i64 4]) (by simp [results, Tryz.results121, go_sem, n0, n1, n2]) rfl ?_
              exact ⟨by rw [HRES.out]; rfl, HF1.out.trans' F5 HZW.out⟩
          · have hk2 : k ≤ 2 := by omega
            have hm2 := num_small HM.out hk2
            have g4 : ((k : Int) + 1 == 4) = false := beq_eq_false_iff_ne.2 (by omega)
            have hcond : ((((k : Int) + 1 == 1) = true ∧ ((y2 : Int) == 128) = false)) ∨ (((k : Int) + 1 == 1) = false) := by
              rcases Nat.eq_zero_or_pos k with h1 | h1
              · exact .inl ⟨by subst h1; rfl, beq_eq_false_iff_ne.2 (by omega)⟩
              · exact .inr (beq_eq_false_iff_ne.2 (by omega))
            have HL := Lib.hid (num_lt HM.out (show y2 % 128 < 128 by omega))
            obtain ⟨m2, hm3⟩ : ∃ m2, m2 = m * 128 + y2 % 128 := ⟨_, rfl⟩
            have hmi : 128 * (m : Int) + (y2 : Int) % 128 = (m2 : Int) := by omega
            rw [← hm3] at HN2 HL
            have hml : m2 < 2097152 := by omega
            clear hm3
            by_cases h128 : y2 < 128
            · have q3 : (y2 : Int) < 128 := by omega
              by_cases hs : m2 < 31
              · have q4 : (m2 : Int) < 31 := by omega
                have hres : readTagS (l.drop p) = .error 4 := by rw [HR.out, HN2.out, if_neg hb1, if_pos h128, if_pos hs]
                have HRES := Lib.hid hres
                clear hres HN2
                rcases hcond with ⟨g1, g2⟩ | g1
                all_goals
                  go_wp2_with fail
                  obtain ⟨B5, F5⟩ := set3 BZ (.int .i64 0) (.int .i64 0) (.bool false)
                  generalize (((wr.setCell ⟨z, 0, none⟩ (.int .i64 0)).setCell ⟨z, 1, none⟩ (.int .i64 0)).setCell ⟨z, 2, none⟩ (.bool false)) = w5 at *
                  have n0 := B5.cell 0
                  have n1 := B5.cell 1
                  have n2 := B5.cell 2
                  simp at n0 n1 n2
                  refine bodyPost_ret (v := .tuple #[.agg #[.int .i64 0, .int .i64 0, .bool false], .int .i64 p, .int .i64 4]) (by simp [results, Tryz.results121, go_sem, n0, n1, n2]) rfl ?_
                  exact ⟨by rw [HRES.out]; rfl, HF1.out.trans' F5 HZW.out⟩
              · have q4 : ¬ (m2 : Int) < 31 := by omega
                have hres : readTagS (l.drop p) = .ok (⟨c1, m2, c3⟩, k + 1 + 1) := by rw [HR.out, HN2.out, if_neg hb1, if_pos h128, if_neg hs]
                have HRES := Lib.hid hres
                have BD3 := BD.set 1 (.int .i64 m2)
                simp at BD3
                have F3 : Fr (fun q => q = d) wr (wr.setCell ⟨d, 1, none⟩ (.int .i64 m2)) := Fr.setCell (S := fun q => q = d) (p := ⟨d, 1, none⟩) (Fr.refl wr) (fun _ => rfl) _
                have BZ3 := BZ.fr F3 (fun e => hdz e.symm)
                have HF3 := Lib.hid (HF1.out.trans' F3 HDW.out)
                clear hres HN2 F3
                rcases hcond with ⟨g1, g2⟩ | g1
                all_goals
                  go_upto_region 20 with fail
                  generalize (wr.setCell ⟨d, 1, none⟩ (.int .i64 m2)) = w3 at *
                  clear SD ZD SZ ZZ
                  have SD := BD3.cell
                  have SZ := BZ3.cell
                  have ZZ := BZ3.frozen
                  go_wp2_with fail
                  obtain ⟨B5, F5⟩ := set3 BZ3 (.int .i64 c1) (.int .i64 m2) (.bool c3)
                  generalize (((w3.setCell ⟨z, 0, none⟩ (.int .i64 c1)).setCell ⟨z, 1, none⟩ (.int .i64 m2)).setCell ⟨z, 2, none⟩ (.bool c3)) = w5 at *
                  have n0 := B5.cell 0
                  have n1 := B5.cell 1
                  have n2 := B5.cell 2
                  simp at n0 n1 n2
                  refine bodyPost_ret (v := .tuple #[.agg #[.int .i64 c1, .int .i64 m2, .bool c3], .int .i64 ((p : Int) + ((k : Int) + 1) + 1), .int .i64 0]) (by simp [results, Tryz.results121, go_sem, n0, n1, n2]) rfl ?_
                  exact ⟨by rw [HRES.out]; simp only [rTagV, tagV]; rw [show ((p + (k + 1 + 1) : Nat) : Int) = (p : Int) + ((k : Int) + 1) + 1 from by omega], HF3.out.trans' F5 HZW.out⟩
            · have q3 : ¬ (y2 : Int) < 128 := by omega
              have hnx : numS 0 0 (l.drop (p + 1)) = numS (k + 1) m2 (l.drop (p + 1 + (k + 1))) := by rw [HN2.out, if_neg hb1, if_neg h128]; rfl
              have HNX := Lib.hid hnx
              clear hnx HN2
              rcases hcond with ⟨g1, g2⟩ | g1
              all_goals
                go_wp2_with fail
                go_roundg (4 - (k + 1))
                case measure => rw [HG.out]; omega
                case rel => exact ⟨k + 1, m2, rfl, by omega, HL.out, rfl, by go_num, HNX.out, rfl⟩
end Go.Proofs.YtacekpdjapgfcaaGreatDoor

namespace Go.Proofs.YtacekpdjapgfcaaGreatDoor
open Go Go.RowKit Go.Q
def rLenV (p : Nat) : Except Int (Nat × Nat) → Value
  | .error e => .tuple #[.int .i64 0, .int .i64 p, .int .i64 e]
  | .ok (v, k) => .tuple #[.int .i64 v, .int .i64 ((p + k : Nat) : Int), .int .i64 0]
set_option maxRecDepth 20000 in
set_option maxHeartbeats 2000000 in
theorem r02ReadLength_any (v : Value) (l : List UInt8) (p : Nat) (w : World) (h : Bytes w v l) (hp : p ≤ l.length) (hlm : l.length ≤ 1099511627776) :
    Calls Tryz.prog 122 #[v, .int .i64 p] w fun e w' => e = .returned (rLenV p (readLenS (l.drop p))) ∧ w = w' := by
  obtain ⟨a, cap, rfl, -, -, hx⟩ := h.form
  have HX := Lib.hid hx
  clear h hx
  rcases Nat.lt_or_ge p l.length with hpl | hpl
  case inr =>
    obtain rfl : p = l.length := by omega
    have hn : readLenS (l.drop l.length) = .error 3 := by rw [List.drop_length]; rfl
    have HN := Lib.hid hn
    clear hn
    go_enter Tryz.func122, Tryz.ntmps122
    go_wp2_with fail
    exact bodyPost_ret (v := .tuple #[.int .i64 0, .int .i64 l.length, .int .i64 3]) (by simp [results, Tryz.results122, go_sem]) rfl ⟨by rw [HN.out]; rfl, rfl⟩
  case inl =>
    obtain ⟨b, o, rfl, hy⟩ := HX.out (by omega)
    obtain ⟨x, hxp⟩ : ∃ x, l[p]? = some x := ⟨_, List.getElem?_eq_getElem hpl⟩
    have ex := hy p x hxp
    have hdp := drop_get hxp
    obtain ⟨y, hyy⟩ : ∃ y, y = x.toNat := ⟨_, rfl⟩
    have hx256 : y < 256 := by rw [hyy]; exact x.toNat_lt
    rw [← hyy] at ex
    have hT : readLenS (l.drop p) = if y < 128 then .ok (y, 1) else if y = 128 ∨ 132 < y then .error 5 else longS (y - 128) (l.drop (p + 1)) := by rw [hdp, hyy]; rfl
    have HT := Lib.hid hT
    have HY := Lib.hid hy
    have r0 : (0 : Int) ≤ (p : Int) := by omega
    have r1 : (p : Int) < (l.length : Int) := by omega
    clear hy hyy hdp hT hxp HX
    by_cases h1 : y < 128
    · have q1 : (y : Int) < 128 := by omega
      have hres : readLenS (l.drop p) = .ok (y, 1) := by rw [HT.out, if_pos h1]
      have HR := Lib.hid hres
      clear hres
      go_enter Tryz.func122, Tryz.ntmps122
      go_wp2_with fail
      exact bodyPost_ret (v := .tuple #[.int .i64 y, .int .i64 ((p : Int) + 1), .int .i64 0]) (by simp [results, Tryz.results122, go_sem]) rfl ⟨by rw [HR.out]; rfl, rfl⟩
    have q1 : ¬ (y : Int) < 128 := by omega
    by_cases h2 : y = 128 ∨ 132 < y
    · have hres : readLenS (l.drop p) = .error 5 := by rw [HT.out, if_neg h1, if_pos h2]
      have HR := Lib.hid hres
      have hc : ((y : Int) == 128) = true ∨ (((y : Int) == 128) = false ∧ (132 : Int) < (y : Int)) := by
        rcases Classical.em (y = 128) with h | h
        · exact .inl (by subst h; rfl)
        · exact .inr ⟨beq_eq_false_iff_ne.2 (by omega), by omega⟩
      clear hres
      rcases hc with g1 | ⟨g1, g2⟩
      all_goals
        go_enter Tryz.func122, Tryz.ntmps122
        go_wp2_with fail
        exact bodyPost_ret (v := .tuple #[.int .i64 0, .int .i64 p, .int .i64 5]) (by simp [results, Tryz.results122, go_sem]) rfl ⟨by rw [HR.out]; rfl, rfl⟩
    have g1 : ((y : Int) == 128) = false := beq_eq_false_iff_ne.2 (by omega)
    have g2 : ¬ (132 : Int) < (y : Int) := by omega
    obtain ⟨n, hn⟩ : ∃ n, n = y - 128 := ⟨_, rfl⟩
    have hn1 : 1 ≤ n := by omega
    have hn4 : n ≤ 4 := by omega
    have hyn : (y : Int) - 128 = (n : Int) := by omega
    have hres : readLenS (l.drop p) = longS n (l.drop (p + 1)) := by rw [HT.out, if_neg h1, if_neg h2, ← hn]
    have HR := Lib.hid hres
    clear hres hn HT
    have hdl : (l.drop (p + 1)).length = l.length - (p + 1) := List.length_drop
    by_cases h3 : l.length - (p + 1) < n
    · have q3 : (l.length : Int) - (p : Int) - 1 < (n : Int) := by omega
      have hres : readLenS (l.drop p) = .error 3 := by rw [HR.out]; unfold longS; rw [hdl, if_pos h3]
      have HRES := Lib.hid hres
      clear hres hdl
      go_enter Tryz.func122, Tryz.ntmps122
      go_wp2_with fail
      exact bodyPost_ret (v := .tuple #[.int .i64 0, .int .i64 p, .int .i64 3]) (by simp [results, Tryz.results122, go_sem]) rfl ⟨by rw [HRES.out]; rfl, rfl⟩
    have q3 : ¬ (l.length : Int) - (p : Int) - 1 < (n : Int) := by omega
    obtain ⟨x1, hx1⟩ : ∃ x, l[p + 1]? = some x := ⟨_, List.getElem?_eq_getElem (by omega)⟩
    have ex1 := HY.out (p + 1) x1 hx1
    obtain ⟨V, hV⟩ : ∃ V, V = beS ((l.drop (p + 1)).take n) := ⟨_, rfl⟩
    have hVl : V < 4294967296 := by rw [hV]; exact be_lt _ (by rw [List.length_take]; omega)
    have hL : longS n (l.drop (p + 1)) = if x1.toNat = 0 ∨ V < 128 then .error 5 else if 16777216 < V then .error 2 else .ok (V, n + 1) := by
      unfold longS
      rw [hdl, if_neg h3, ← hV, drop_get hx1]
      simp
    rw [hL] at HR
    have HV := Lib.hid hV
    obtain ⟨y1, hy1⟩ : ∃ y1, y1 = x1.toNat := ⟨_, rfl⟩
    rw [← hy1] at HR ex1
    have r2 : (p : Int) + 1 < (l.length : Int) := by omega
    have HEX := Lib.hid ex1
    clear hL hdl hx1 hV hy1 ex1
    go_enter Tryz.func122, Tryz.ntmps122
    go_wp2_with fail
    go_loopg [9, 10] n (fun g k i wr => ∃ j : Nat, g = n - j ∧ j ≤ n ∧ k = .int .i64 (beS ((l.drop (p + 1)).take j)) ∧ i = .int .i64 ((j : Int) + 1) ∧ wr = w)
    case atStart => exact ⟨0, rfl, Nat.zero_le _, rfl, rfl, rfl⟩
    case round =>
      obtain ⟨j, hg, hj, rfl, rfl, rfl⟩ := hrel
      have HG := Lib.hid hg
      clear hg
      by_cases hjn : j < n
      · have q4 : (j : Int) + 1 ≤ (n : Int) := by omega
        obtain ⟨x2, hx2⟩ : ∃ x, l[p + 1 + j]? = some x := ⟨_, List.getElem?_eq_getElem (by omega)⟩
        have e2 := HY.out (p + 1 + j) x2 hx2
        have hx3 : (l.drop (p + 1))[j]? = some x2 := by rw [List.getElem?_drop]; exact hx2
        have hbe := be_take hx3
        obtain ⟨K, hK⟩ : ∃ K, K = beS ((l.drop (p + 1)).take j) := ⟨_, rfl⟩
        have hKl : K < 4294967296 := by rw [hK]; exact be_lt _ (by rw [List.length_take]; omega)
        rw [← hK] at hbe ⊢
        have HBE := Lib.hid hbe
        have h256 := x2.toNat_lt
        generalize x2.toNat = y2 at *
        rw [show o + (p + 1 + j) = o + (p + (j + 1)) from by omega] at e2
        have hin : ((p : Int) + ((j : Int) + 1)).toNat = p + (j + 1) := by omega
        have r2 : (0 : Int) ≤ (p : Int) + ((j : Int) + 1) := by omega
        have r3 : (p : Int) + ((j : Int) + 1) < (l.length : Int) := by omega
        have hy2 : y2 < 256 := by omega
        clear hbe hK hx2 hx3 h256
        go_wp2_with fail
        go_roundg (n - (j + 1))
        case measure => rw [HG.out]; omega
        case rel => exact ⟨j + 1, rfl, by omega, by rw [HBE.out]; go_num, by go_num, rfl⟩
      · obtain rfl : j = n := by omega
        have q4 : ¬ (j : Int) + 1 ≤ (j : Int) := by omega
        rw [← HV.out]
        have e1 := HEX.out
        have hin : ((p : Int) + 1).toNat = p + 1 := by omega
        have r3 : (0 : Int) ≤ (p : Int) + 1 := by omega
        by_cases h4 : y1 = 0 ∨ V < 128
        · have hres : readLenS (l.drop p) = .error 5 := by rw [HR.out, if_pos h4]
          have HRES := Lib.hid hres
          have hc : ((y1 : Int) == 0) = true ∨ (((y1 : Int) == 0) = false ∧ (V : Int) < 128) := by
            rcases Classical.em (y1 = 0) with h | h
            · exact .inl (by subst h; rfl)
            · exact .inr ⟨beq_eq_false_iff_ne.2 (by omega), by omega⟩
          clear hres
          rcases hc with g3 | ⟨g3, g4⟩
          all_goals
            go_wp2_with fail
            exact bodyPost_ret (v := .tuple #[.int .i64 0, .int .i64 p, .int .i64 5]) (by simp [results, Tryz.results122, go_sem]) rfl ⟨by rw [HRES.out]; rfl, rfl⟩
        · have g3 : ((y1 : Int) == 0) = false := beq_eq_false_iff_ne.2 (by omega)
          have g4 : ¬ (V : Int) < 128 := by omega
          by_cases h5 : 16777216 < V
          · have g5 : (16777216 : Int) < (V : Int) := by omega
            have hres : readLenS (l.drop p) = .error 2 := by rw [HR.out, if_neg h4, if_pos h5]
            have HRES := Lib.hid hres
            clear hres
            go_wp2_with fail
            exact bodyPost_ret (v := .tuple #[.int .i64 0, .int .i64 p, .int .i64 2]) (by simp [results, Tryz.results122, go_sem]) rfl ⟨by rw [HRES.out]; rfl, rfl⟩
          · have g5 : ¬ (16777216 : Int) < (V : Int) := by omega
            have hres : readLenS (l.drop p) = .ok (V, j + 1) := by rw [HR.out, if_neg h4, if_neg h5]
            have HRES := Lib.hid hres
            clear hres
            go_wp2_with fail
            exact bodyPost_ret (v := .tuple #[.int .i64 V, .int .i64 ((p : Int) + (j : Int) + 1), .int .i64 0]) (by simp [results, Tryz.results122, go_sem]) rfl ⟨by rw [HRES.out]; simp only [rLenV]; rw [show ((p + (j + 1) : Nat) : Int) = (p : Int) + (j : Int) + 1 from by omega], rfl⟩
end Go.Proofs.YtacekpdjapgfcaaGreatDoor

namespace Go.Proofs.YtacekpdjapgfcaaGreatDoor
open Go Go.RowKit Go.Q
set_option linter.unusedSimpArgs false
def rReadV (p : Nat) : Except Int (Tag × Nat × Nat) → Value
  | .error e => .tuple #[tagV ⟨0, 0, false⟩, .int .i64 0, .int .i64 p, .int .i64 e]
  | .ok (t, n, k) => .tuple #[tagV t, .int .i64 n, .int .i64 ((p + k : Nat) : Int), .int .i64 0]
theorem readTag_le {l : List UInt8} {t : Tag} {k : Nat} (h : readTagS l = .ok (t, k)) : k ≤ l.length := by
  cases l with
  | nil => simp [readTagS] at h
  | cons x r =>
    simp only [readTagS] at h
    split at h
    · simp only [Except.ok.injEq, Prod.mk.injEq] at h
      simp only [List.length_cons]
      omega
    · split at h
      · cases h
      · rename_i n k' he
        have := (numS_pos he).2
        simp only [Except.ok.injEq, Prod.mk.injEq] at h
        simp only [List.length_cons]
        omega
set_option maxRecDepth 20000 in
set_option maxHeartbeats 2000000 in
theorem r02Read_any (v : Value) (l : List UInt8) (p : Nat) (w : World) (h : Bytes w v l) (hp : p ≤ l.length) (hlm : l.length ≤ 1099511627776) :
    Calls Tryz.prog 73 #[v, .int .i64 p] w fun e w' => e = .returned (rReadV p (readS (l.drop p))) ∧ Fr (fun _ => False) w w' := by
  obtain ⟨a, cap, rfl, -⟩ := h.form
  obtain ⟨z, hz⟩ : ∃ z, z = w.heap.size := ⟨_, rfl⟩
  have BZ := Blk.new w 86 #[.int .i64 0, .int .i64 0, .bool false]
  have F0 : Fr (fun _ => False) w (w.alloc (.cells #[.int .i64 0, .int .i64 0, .bool false] 86)) := (Fr.refl w).alloc _
  rw [← hz] at BZ
  have hzw : ∀ k, k < w.heap.size → k = z → False := fun k hk e => by omega
  have HZ := Lib.hid hz
  have HT := Lib.hid (r02ReadTag_any _ l p _ (h.old F0) hp hlm)
  have HB := Lib.hid h
  have HF0 := Lib.hid F0
  have HZW := Lib.hid hzw
  have hR : readS (l.drop p) = match readTagS (l.drop p) with
    | .error e => .error e
    | .ok (t, k) => match readLenS ((l.drop p).drop k) with
      | .error e => .error e
      | .ok (n, m) => .ok (t, n, k + m) := rfl
  have HR := Lib.hid hR
  clear h hz F0 hzw hR
  go_enter Tryz.func73, Tryz.ntmps73
  go_upto_region 1 with fail
  rw [← HZ.out]
  generalize (w.alloc (.cells #[.int .i64 0, .int .i64 0, .bool false] 86)) = w0 at *
  go_wp2_with fail
  refine HT.out.mono ?_
  rintro e w1 ⟨rfl, F⟩
  replace BZ := BZ.fr F (fun h => h)
  have HF := Lib.hid (HF0.out.trans F)
  clear F HF0 HT
  cases ht : readTagS (l.drop p) with
  | error e =>
    have he : e ≠ 0 := readTagS_err ht
    have he1 : (e == 0) = false := beq_eq_false_iff_ne.2 he
    have he2 : (e != 0) = true := by simpa using he
    have hres : readS (l.drop p) = .error e := by rw [HR.out, ht]
    have HRES := Lib.hid hres
    clear ht hres he
    rw [show rTagV p (.error e) = .tuple #[.agg #[.int .i64 0, .int .i64 0, .bool false], .int .i64 p, .int .i64 e] from rfl]
    go_upto_region 2 with fail
    obtain ⟨d, hd⟩ : ∃ d, d = w1.heap.size := ⟨_, rfl⟩
    have BD := Blk.new w1 86 #[.int .i64 0, .int .i64 0, .bool false]
    have F1 : Fr (fun _ => False) w1 (w1.alloc (.cells #[.int .i64 0, .int .i64 0, .bool false] 86)) := (Fr.refl w1).alloc _
    have hzl := BZ.lt
    replace BZ := BZ.fr F1 (fun h => h)
    have HF1 := Lib.hid (HF.out.trans F1)
    rw [← hd] at BD ⊢
    have hdz : d ≠ z := by omega
    clear hd F1 hzl HF
    generalize (w1.alloc (.cells #[.int .i64 0, .int .i64 0, .bool false] 86)) = w2 at *
    have SZ := BZ.cell
    have ZZ := BZ.frozen
    go_wp2_with fail
    obtain ⟨B5, F5⟩ := set3 BZ (.int .i64 0) (.int .i64 0) (.bool false)
    generalize (((w2.setCell ⟨z, 0, none⟩ (.int .i64 0)).setCell ⟨z, 1, none⟩ (.int .i64 0)).setCell ⟨z, 2, none⟩ (.bool false)) = w5 at *
    have n0 := B5.cell 0
    have n1 := B5.cell 1
    have n2 := B5.cell 2
    simp at n0 n1 n2
    refine bodyPost_ret (v := .tuple #[.agg #[.int .i64 0, .int .i64 0, .bool false], .int .i64 0, .int .i64 p, .int .i64 e]) (by simp [results, Tryz.results73, go_sem, n0, n1, n2]) rfl ?_
    exact ⟨by rw [HRES.out]; rfl, HF1.out.trans' F5 HZW.out⟩
  | ok tk =>
    obtain ⟨⟨c1, c2, c3⟩, k⟩ := tk
    have hk := readTag_le ht
    rw [List.length_drop] at hk
    have hres : readS (l.drop p) = match readLenS (l.drop (p + k)) with
      | .error e => .error e
      | .ok (n, m) => .ok (⟨c1, c2, c3⟩, n, k + m) := by rw [HR.out, ht]; simp only [List.drop_drop]
    have HRES := Lib.hid hres
    clear ht hres
    rw [show rTagV p (.ok (⟨c1, c2, c3⟩, k)) = .tuple #[.agg #[.int .i64 c1, .int .i64 c2, .bool c3], .int .i64 ((p + k : Nat) : Int), .int .i64 0] from rfl]
    generalize hq : p + k = q at *
    go_upto_region 2 with fail
    obtain ⟨d, hd⟩ : ∃ d, d = w1.heap.size := ⟨_, rfl⟩
    have BD := Blk.new w1 86 #[.int .i64 c1, .int .i64 c2, .bool c3]
    have F1 : Fr (fun _ => False) w1 (w1.alloc (.cells #[.int .i64 c1, .int .i64 c2, .bool c3] 86)) := (Fr.refl w1).alloc _
    have hzl := BZ.lt
    replace BZ := BZ.fr F1 (fun h => h)
    have HF1 := Lib.hid (HF.out.trans F1)
    rw [← hd] at BD ⊢
    have hdz : d ≠ z := by omega
    clear hd F1 hzl HF
    generalize (w1.alloc (.cells #[.int .i64 c1, .int .i64 c2, .bool c3] 86)) = w2 at *
    have HL := Lib.hid (r02ReadLength_any _ l q w2 (HB.out.old HF1.out) (by omega) hlm)
    have SZ := BZ.cell
    have ZZ := BZ.frozen
    have SD := BD.cell
    go_wp2_with fail
    refine HL.out.mono ?_
    rintro e w3 ⟨rfl, rfl⟩
    cases hl : readLenS (l.drop q) with
    | error e =>
      have he : e ≠ 0 := readLenS_err hl
      have he1 : (e == 0) = false := beq_eq_false_iff_ne.2 he
      have he2 : (e != 0) = true := by simpa using he
      have hres : readS (l.drop p) = .error e := by rw [HRES.out, hl]
      have HRES2 := Lib.hid hres
      clear hl hres he
      rw [show rLenV q (.error e) = .tuple #[.int .i64 0, .int .i64 q, .int .i64 e] from rfl]
      go_wp2_with fail
      obtain ⟨B5, F5⟩ := set3 BZ (.int .i64 0) (.int .i64 0) (.bool false)
      generalize (((w2.setCell ⟨z, 0, none⟩ (.int .i64 0)).setCell ⟨z, 1, none⟩ (.int .i64 0)).setCell ⟨z, 2, none⟩ (.bool false)) = w5 at *
      have n0 := B5.cell 0
      have n1 := B5.cell 1
      have n2 := B5.cell 2
      simp at n0 n1 n2
      refine bodyPost_ret (v := .tuple #[.agg #[.int .i64 0, .int .i64 0, .bool false], .int .i64 0, .int .i64 p, .int .i64 e]) (by simp [results, Tryz.results73, go_sem, n0, n1, n2]) rfl ?_
      exact ⟨by rw [HRES2.out]; rfl, HF1.out.trans' F5 HZW.out⟩
    | ok vm =>
      obtain ⟨n, m⟩ := vm
      have hres : readS (l.drop p) = .ok (⟨c1, c2, c3⟩, n, k + m) := by rw [HRES.out, hl]
      have HRES2 := Lib.hid hres
      clear hl hres
      rw [show rLenV q (.ok (n, m)) = .tuple #[.int .i64 n, .int .i64 ((q + m : Nat) : Int), .int .i64 0] from rfl]
      generalize hr : q + m = r at *
      go_wp2_with fail
      obtain ⟨B5, F5⟩ := set3 BZ (.int .i64 c1) (.int .i64 c2) (.bool c3)
      generalize (((w2.setCell ⟨z, 0, none⟩ (.int .i64 c1)).setCell ⟨z, 1, none⟩ (.int .i64 c2)).setCell ⟨z, 2, none⟩ (.bool c3)) = w5 at *
      have n0 := B5.cell 0
      have n1 := B5.cell 1
      have n2 := B5.cell 2
      simp at n0 n1 n2
      refine bodyPost_ret (v := .tuple #[.agg #[.int .i64 c1, .int .i64 c2, .bool c3], .int .i64 n, .int .i64 r, .int .i64 0]) (by simp [results, Tryz.results73, go_sem, n0, n1, n2]) rfl ?_
      exact ⟨by rw [HRES2.out]; simp only [rReadV, tagV]; rw [show p + (k + m) = r from by omega], HF1.out.trans' F5 HZW.out⟩
end Go.Proofs.YtacekpdjapgfcaaGreatDoor

namespace Go.Q
open Go
theorem readLen_le {l : List UInt8} {v k : Nat} (h : readLenS l = .ok (v, k)) : k ≤ l.length ∧ v ≤ 16777216 := by
  cases l with
  | nil => simp [readLenS] at h
  | cons x t =>
    simp only [readLenS] at h
    split at h
    · simp only [Except.ok.injEq, Prod.mk.injEq] at h
      simp only [List.length_cons]
      omega
    · split at h
      · cases h
      · unfold longS at h
        split at h
        · cases h
        split at h
        · cases h
        split at h
        · cases h
        · simp only [Except.ok.injEq, Prod.mk.injEq] at h
          simp only [List.length_cons]
          omega
theorem readS_le {l : List UInt8} {t : Tag} {n k : Nat} (h : readS l = .ok (t, n, k)) : k ≤ l.length ∧ n ≤ 16777216 := by
  unfold readS at h
  split at h
  · cases h
  · rename_i t' k' he
    have h1 := Go.Proofs.YtacekpdjapgfcaaGreatDoor.readTag_le he
    split at h
    · cases h
    · rename_i v m hl
      have h2 := readLen_le hl
      rw [List.length_drop] at h2
      simp only [Except.ok.injEq, Prod.mk.injEq] at h
      omega
end Go.Q

namespace Go.Q
open Go Go.RowKit
theorem up7_zero (f : Nat) : up7 f 0 = [] := by cases f <;> simp [up7]
theorem up7_ge : ∀ (f m : Nat), m < 128 ^ f → up7 (f + 1) m = up7 f m
  | 0, m, h => by simp at h; subst h; simp [up7]
  | f + 1, m, h => by
    by_cases h0 : m = 0
    · subst h0; simp [up7]
    · have ih := up7_ge f (m / 128) (by rw [Nat.pow_succ] at h; omega)
      rw [up7, if_neg h0, ih]
      rw [up7, if_neg h0]
theorem base128_small {n : Nat} (h : n < 128) : base128 n = [UInt8.ofNat n] := by
  unfold base128
  rw [show n / 128 = 0 from by omega, up7_zero, show n % 128 = n from by omega]
  rfl
theorem base128_step {n : Nat} (h : 128 ≤ n) (hn : n ≤ 2147483647) : ∃ front : List UInt8, base128 (n / 128) = front ++ [UInt8.ofNat (n / 128 % 128)] ∧ base128 n = front ++ [UInt8.ofNat (n / 128 % 128 + 128)] ++ [UInt8.ofNat (n % 128)] := by
  refine ⟨(up7 5 (n / 128 / 128)).reverse, by simp [base128], ?_⟩
  have e : up7 5 (n / 128) = UInt8.ofNat (n / 128 % 128 + 128) :: up7 4 (n / 128 / 128) := by rw [up7, if_neg (by omega)]
  have e2 : up7 5 (n / 128 / 128) = up7 4 (n / 128 / 128) := up7_ge 4 _ (Nat.lt_of_le_of_lt (show n / 128 / 128 ≤ 131071 by omega) (by decide))
  unfold base128
  rw [e, e2]
  simp
theorem own_set {w : World} {base n : Nat} {e : TypeId} {a : Option Addr} {m c : Nat} {xs : List Value} (h : w.ownsRow base e 1 (.slice a m c) n xs) (i : Nat) (hi : i < n) (u : Value) :
    ∃ g, a = some ⟨g, 0, none⟩ ∧ base ≤ g ∧ g < w.heap.size ∧ m = n ∧ n ≤ c ∧ c ≤ maxLen ∧ w.frozen? ⟨g, i, none⟩ = false ∧ w.cell? ⟨g, i, none⟩ = xs[i]? ∧ (w.setCell ⟨g, i, none⟩ u).ownsRow base e 1 (.slice a m c) n (xs.set i u) ∧ Fr (fun k => k = g) w (w.setCell ⟨g, i, none⟩ u) := by
  obtain ⟨h1, h2⟩ := h
  rcases h2 with ⟨he, h0⟩ | ⟨g, cap, cur, he, hg, hh, hnc, hcm, hcs, htk⟩
  · omega
  · simp only [Value.slice.injEq] at he
    obtain ⟨rfl, rfl, rfl⟩ := he
    have B : Blk w g e cur := hh
    simp only [Nat.mul_one] at h1 hcs htk
    refine ⟨g, rfl, hg, B.lt, rfl, hnc, hcm, B.frozen i, ?_, ⟨by simpa using h1, .inr ⟨g, c, cur.setIfInBounds i u, rfl, hg, B.set i u, hnc, hcm, by simpa using hcs, ?_⟩⟩, Fr.setCell (S := fun k => k = g) (p := ⟨g, i, none⟩) (Fr.refl w) (fun _ => rfl) _⟩
    · rw [B.cell, ← htk, List.getElem?_take, if_pos hi, Array.getElem?_toList]
    · rw [Nat.mul_one, Array.toList_setIfInBounds, ← htk, List.take_set]
end Go.Q

namespace Go.Proofs.YtacekpdjapgfcaaGreatDoor
open Go Go.RowKit Go.Q
theorem steps_next {l : List Part} {ws : List (List UInt8)} {x : List UInt8} {j : Nat} (hS : stepsS none l = (stepsS ws.getLast? (l.drop j)).map (ws ++ ·))
    (hsp : stepsS ws.getLast? (l.drop j) = if (match ws.getLast? with | some y => decide (0 ≤ cmpS y x) | none => false) = true then none else (stepsS (some x) (l.drop (j + 1))).map (x :: ·))
    (hc : (match ws.getLast? with | some y => decide (0 ≤ cmpS y x) | none => false) = false) : stepsS none l = (stepsS (ws ++ [x]).getLast? (l.drop (j + 1))).map ((ws ++ [x]) ++ ·) := by
  rw [hS, hsp, hc, List.getLast?_concat]
  simp only [Bool.false_eq_true, ↓reduceIte, Option.map_map]
  congr 1
  funext y
  simp
theorem attr_len {o : List Int} {b x : List UInt8} (h : attrS o b = some x) (hb : b.length ≤ 10000000) : 0 < x.length ∧ x.length ≤ 1099511627776 := by
  unfold attrS at h
  split at h
  · rename_i h0
    simp only [Bool.and_eq_true] at h0
    simp only [Option.some.injEq] at h
    subst h
    have h1 := oidWhole_len (nums_ok h0.1).2.1
    have h2 : (lenBytes (oidWhole o ++ b).length).length ≤ 5 := by unfold lenBytes; (repeat' split) <;> simp
    rw [wrap_len, List.length_append] at *
    omega
  · cases h
set_option maxRecDepth 20000 in
set_option maxHeartbeats 2000000 in
theorem wholesRdn_any (v : Value) (l : List Part) (w : World) (h : Attrs w v l) (hf : fewB l) :
    Calls Tryz.prog 103 #[v] w fun e w' => (∃ v', e = .returned (.tuple #[v', .bool (rdnS l).isSome]) ∧ ∀ ls, rdnS l = some ls → Row w' w.heap.size v' ls) ∧ Fr (fun _ => False) w w' := by
  have H := Lib.hid h
  obtain ⟨a, cap, rfl, hc, hm, -⟩ := h
  rcases Classical.em (l.length = 0 ∨ 16 < l.length) with hl | hl
  · have hn : rdnS l = none := by unfold rdnS; rw [if_pos hl]
    rcases hl with hl | hl
    · have HN := Lib.hid hn
      have q1 : ((l.length : Int) == 0) = true := by rw [hl]; rfl
      have q2 : (l.length == 0) = true := by rw [hl]; rfl
      clear hn
      go_enter Tryz.func103, Tryz.ntmps103
      go_wp2_with fail
      refine bodyPost_ret (v := .tuple #[.slice none 0 0, .bool false]) (by simp [results, Tryz.results103, go_sem]) rfl ⟨⟨_, by rw [HN.out]; rfl, fun ls e => by rw [HN.out] at e; cases e⟩, Fr.refl _⟩
    · have HN := Lib.hid hn
      have q1 : ((l.length : Int) == 0) = false := beq_eq_false_iff_ne.2 (by omega)
      have q2 : (l.length == 0) = false := beq_eq_false_iff_ne.2 (by omega)
      have q3 : (16 : Int) < (l.length : Int) := by omega
      clear hn
      go_enter Tryz.func103, Tryz.ntmps103
      go_wp2_with fail
      refine bodyPost_ret (v := .tuple #[.slice none 0 0, .bool false]) (by simp [results, Tryz.results103, go_sem]) rfl ⟨⟨_, by rw [HN.out]; rfl, fun ls e => by rw [HN.out] at e; cases e⟩, Fr.refl _⟩
  · have hn : rdnS l = stepsS none l := by unfold rdnS; rw [if_neg hl]
    have HN := Lib.hid hn
    have q1 : ((l.length : Int) == 0) = false := beq_eq_false_iff_ne.2 (by omega)
    have q2 : (l.length == 0) = false := beq_eq_false_iff_ne.2 (by omega)
    have q3 : ¬ (16 : Int) < (l.length : Int) := by omega
    have qT : ∀ (w : World) (a : Option Addr) (n c n' c' : Nat), (binOp .eql 23 (.slice a n c) (.slice none n' c')).run Tryz.prog w = .ok (.bool a.isNone) w := fun w a n c n' c' => Lib.run_eql_slice_nil w _ _ a n c n' c' Tryz.underlying23
    clear hn
    go_enter Tryz.func103, Tryz.ntmps103
    go_wp2_with fail
    go_loopg [4, 18] l.length (fun g u i wr => ∃ (j : Nat) (ws : List (List UInt8)), g = l.length - j ∧ j ≤ l.length ∧ i = .int .i64 j ∧ ws.length = j ∧ (∀ y ∈ ws, y.length ≤ 1099511627776) ∧ Row wr w.heap.size u ws ∧ Fr (fun _ => False) w wr ∧ (stepsS none l = (stepsS ws.getLast? (l.drop j)).map (ws ++ ·)))
    case atStart => exact ⟨0, [], rfl, Nat.zero_le _, rfl, rfl, by simp, Row.nil _ _, Fr.refl _, by simp⟩
    case round =>
      obtain ⟨j, ws, hg, hj, rfl, hws, hwl, hrow, F, hS⟩ := hrel
      have HG := Lib.hid hg
      have HS := Lib.hid hS
      have HF := Lib.hid F
      obtain ⟨au, cu, rfl⟩ : ∃ au cu, u4 = .slice au j cu := by
        obtain ⟨us, h1, _⟩ := hrow
        obtain ⟨a0, m0, c0, rfl, rfl⟩ := own_shape h1
        exact ⟨_, _, by rw [hws]⟩
      have HR := Lib.hid hrow
      have HWS := Lib.hid hws
      clear hg hS hrow hws
      by_cases hjl : j < l.length
      · obtain ⟨a0, cap0, he, _, _, hx⟩ := H.out.old F
        simp only [Value.slice.injEq, true_and] at he
        obtain ⟨rfl, rfl⟩ := he
        obtain ⟨b, off, rfl, hy⟩ := hx (by omega)
        obtain ⟨p, hp⟩ : ∃ p, l[j]? = some p := ⟨_, List.getElem?_eq_getElem hjl⟩
        obtain ⟨x, y, e1, e2, hpx, hpy⟩ := hy j p hp
        have hsp := Lib.hid (stepsS_split l j p hp ws.getLast?)
        have hpb := hf p (List.mem_of_getElem? hp)
        have r1 : (0 : Int) ≤ (j : Int) := by omega
        have r2 : (j : Int) < (l.length : Int) := by omega
        have HPX := Lib.hid hpx
        have HPY := Lib.hid hpy
        obtain ⟨ax, cx, rfl, -⟩ := Ints.form hpx
        obtain ⟨ay, cy, rfl, -⟩ := Vals.form hpy
        have e1' : wr.cell? ⟨b, off + j * 2, none⟩ = some (.slice ax p.o.length cx) := by rw [Nat.mul_comm]; exact e1
        have e2' : wr.cell? ⟨b, off + j * 2 + 1, none⟩ = some (.slice ay p.b.length cy) := by rw [Nat.mul_comm]; exact e2
        clear hx hy hp hpx hpy F
        go_upto_region 7 with fail
        have BZ := Blk.new wr 108 #[.slice ax p.o.length cx, .slice ay p.b.length cy]
        have F1 : Fr (fun _ => False) wr (wr.alloc (.cells #[.slice ax p.o.length cx, .slice ay p.b.length cy] 108)) := (Fr.refl wr).alloc _
        have HPX1 := Lib.hid (HPX.out.old F1)
        have HPY1 := Lib.hid (HPY.out.old F1)
        have HR1 := Lib.hid (HR.out.old F1)
        have HF1 := Lib.hid (HF.out.trans F1)
        clear e1 e2 e1' e2' HPX HPY HF F1 HR
        generalize (wr.alloc (.cells #[.slice ax p.o.length cx, .slice ay p.b.length cy] 108)) = w1 at *
        have z0 := BZ.cell 0
        have z1 := BZ.cell 1
        simp at z0 z1
        go_wp2_with fail
        refine (whole_any _ _ p.o p.b w1 HPX1.out HPY1.out hpb).mono ?_
        rintro e w2 ⟨v2, rfl, hout, F2⟩
        have HR2 := Lib.hid (HR1.out.old F2)
        have HF2 := Lib.hid (HF1.out.trans F2)
        unfold wholeOut at hout
        have hlw1 : ∀ k, (Value.slice au j cu).ownBlock = some k → k < w1.heap.size := fun k hk => by
          obtain ⟨us, g1, _⟩ := HR1.out
          exact ((Vals.of_own g1).2 k hk).2
        have HLW := Lib.hid hlw1
        clear z0 z1 BZ HPX1 HPY1 HR1 HF1 F2 hlw1
        cases hq : attrS p.o p.b with
        | none =>
          rw [hq] at hout
          subst hout
          have hn : rdnS l = none := by rw [HN.out, HS.out, hsp.out, hq]; rfl
          have HNN := Lib.hid hn
          clear hn
          go_wp2_with fail
          refine bodyPost_ret (v := .tuple #[.slice none 0 0, .bool false]) (by simp [results, Tryz.results103, go_sem]) rfl ⟨⟨_, by rw [HNN.out]; rfl, fun ls e => by rw [HNN.out] at e; cases e⟩, HF2.out⟩
        | some x =>
          rw [hq] at hout
          have hsp1 := hsp.out
          rw [hq] at hsp1
          have hx0 : 0 < x.length ∧ x.length ≤ 1099511627776 := attr_len hq hpb
          have HO := Lib.hid hout
          obtain ⟨g2, c2, hgc, hv2⟩ : ∃ g c, w1.heap.size ≤ g ∧ v2 = .slice (some ⟨g, 0, none⟩) x.length c := by
            rcases hout.2 with ⟨rfl, h0⟩ | ⟨g, cap, cur, rfl, hg, _⟩
            · omega
            · exact ⟨g, cap, hg, rfl⟩
          subst hv2
          have HSP := Lib.hid hsp1
          clear hout hsp hsp1
          have hadd : ∀ w3, Fr (fun _ => False) w2 w3 → ∃ a5 c5 w5, (Builtin.append_ #[136, 136] 136 #[.slice au j cu, .slice (some ⟨w3.heap.size, 0, none⟩) 1 1]).run Tryz.prog (w3.alloc (.cells #[.slice (some ⟨g2, 0, none⟩) x.length c2] 23)) = .ok (.slice a5 (j + 1) c5) w5 ∧ Row w5 w.heap.size (.slice a5 (j + 1) c5) (ws ++ [x]) ∧ Fr (fun _ => False) w w5 := fun w3 F23 => by
            have F3 : Fr (fun _ => False) w2 (w3.alloc (.cells #[.slice (some ⟨g2, 0, none⟩) x.length c2] 23)) := F23.alloc _
            have hadd := Row.add (HR2.out.old F3) w3.heap.size (.slice (some ⟨g2, 0, none⟩) x.length c2) x (Blk.new w3 _ _) ((Vals.of_own HO.out).1.old F3) (fun k hk e => by
              simp only [Value.ownBlock, Option.some.injEq] at hk
              have := HLW.out k e
              omega) (by rw [HWS.out]; omega) (HF2.out.trans F3).size
            obtain ⟨a5, c5, w5, hrun, hrow, F5⟩ := hadd
            have G5 := (HF2.out.trans F3).trans' F5 (fun i hi e => by
              obtain ⟨us, g1, _⟩ := HR2.out
              have := ((Vals.of_own g1).2 i e).1
              omega)
            rw [HWS.out] at hrun hrow
            exact ⟨a5, c5, w5, hrun, hrow, G5⟩
          have HADD := Lib.hid hadd
          have hlen : (ws ++ [x]).length = j + 1 := by simp [HWS.out]
          have HLEN := Lib.hid hlen
          have hwl2 : ∀ y ∈ ws ++ [x], y.length ≤ 1099511627776 := fun y hy => by
            rcases List.mem_append.1 hy with h | h
            · exact hwl y h
            · rw [List.mem_singleton.1 h]; exact hx0.2
          have HWL2 := Lib.hid hwl2
          clear hadd hlen hwl2
          by_cases hj0 : j = 0
          · subst hj0
            have hw0 : ws = [] := List.length_eq_zero_iff.1 HWS.out
            have hnx := steps_next HS.out HSP.out (by rw [hw0]; rfl)
            have HNX := Lib.hid hnx
            obtain ⟨a5, c5, w5, hrun, hrow, G5⟩ := HADD.out w2 (Fr.refl _)
            have HRUN := Lib.hid hrun
            have HROW := Lib.hid hrow
            have HG5 := Lib.hid G5
            clear hnx hrun hrow G5
            go_wp2_with (at_builtin; refine wpList_append_run (by rfl) (.tmp 41) (.tmp 43) 136 (by rfl) _ w5 (by exact HRUN.out) ?_)
            go_roundg (l.length - (0 + 1))
            case measure => rw [HG.out]; omega
            case rel =>
              exact ⟨0 + 1, ws ++ [x], rfl, by omega, by go_num, HLEN.out, HWL2.out, HROW.out, HG5.out, HNX.out⟩
          · obtain ⟨us, g1, g2', g3⟩ := HR2.out
            obtain ⟨aR, cR, heR, hcR, hmR, hxR⟩ := (Vals.of_own g1).1
            rw [g2', HWS.out] at heR hcR hxR
            simp only [Value.slice.injEq, true_and] at heR
            obtain ⟨rfl, rfl⟩ := heR
            obtain ⟨bR, oR, rfl, hyR⟩ := hxR (by omega)
            obtain ⟨k, rfl⟩ : ∃ k, j = k + 1 := ⟨j - 1, by omega⟩
            have hws2 := HWS.out
            obtain ⟨uk, huk⟩ : ∃ u, us[k]? = some u := ⟨_, List.getElem?_eq_getElem (by omega)⟩
            obtain ⟨xk, hxk⟩ : ∃ x, ws[k]? = some x := ⟨_, List.getElem?_eq_getElem (by omega)⟩
            have ek := hyR k uk huk
            have hbk := (g3 k uk xk huk hxk).1
            have hlast : ws.getLast? = some xk := by rw [List.getLast?_eq_getElem?, hws2]; exact hxk
            have hsp2 := HSP.out
            rw [hlast] at hsp2
            obtain ⟨ak, ck, rfl, -⟩ := Vals.form hbk
            have t1 : IntKind.i64.wrap (((k + 1 : Nat) : Int) - 1) = (k : Int) := by simp [IntKind.wrap, IntKind.signed, IntKind.bits]; omega
            have t2 : (0 : Int) < ((k + 1 : Nat) : Int) := by omega
            have hck : xk.length ≤ 1099511627776 := hwl xk (List.mem_of_getElem? hxk)
            have HCM := Lib.hid (compare_any _ _ xk x w2 hbk (Vals.of_own HO.out).1 hck hx0.2)
            obtain ⟨cm, hcm⟩ : ∃ cm, cm = cmpS xk x := ⟨_, rfl⟩
            have HCC := Lib.hid hcm
            rw [← hcm] at HCM
            have hr3 : ∀ w3, Fr (fun _ => False) w2 w3 → True := fun _ _ => trivial
            have HLA := Lib.hid hlast
            clear hyR g1 g3 hxR hsp2 hwl hxk huk hlast hr3 hcm
            by_cases hge : 0 ≤ cm
            · have hn : rdnS l = none := by
                rw [HN.out, HS.out, HSP.out, HLA.out]
                simp [← HCC.out, hge]
              have HNN := Lib.hid hn
              clear hn
              go_wp2_with fail
              refine HCM.out.mono ?_
              rintro e w3 ⟨rfl, F3⟩
              go_wp2_with fail
              refine bodyPost_ret (v := .tuple #[.slice none 0 0, .bool false]) (by simp [results, Tryz.results103, go_sem]) rfl ⟨⟨_, by rw [HNN.out]; rfl, fun ls e => by rw [HNN.out] at e; cases e⟩, HF2.out.trans F3⟩
            · have hcond : (match ws.getLast? with | some y => decide (0 ≤ cmpS y x) | none => false) = false := by
                rw [HLA.out]
                simp only [← HCC.out]
                exact decide_eq_false hge
              have HNX := Lib.hid (steps_next HS.out HSP.out hcond)
              clear hcond
              go_wp2_with fail
              refine HCM.out.mono ?_
              rintro e w3 ⟨rfl, F3⟩
              obtain ⟨a5, c5, w5, hrun, hrow, G5⟩ := HADD.out w3 F3
              have HRUN := Lib.hid hrun
              have HROW := Lib.hid hrow
              have HG5 := Lib.hid G5
              clear hrun hrow G5
              go_wp2_with (at_builtin; refine wpList_append_run (by rfl) (.tmp 41) (.tmp 43) 136 (by rfl) _ w5 (by exact HRUN.out) ?_)
              go_roundg (l.length - (k + 1 + 1))
              case measure => rw [HG.out]; omega
              case rel =>
                exact ⟨k + 1 + 1, ws ++ [x], rfl, by omega, by go_num, HLEN.out, HWL2.out, HROW.out, HG5.out, HNX.out⟩
      · have hd : l.drop j = [] := List.drop_eq_nil_of_le (by omega)
        have hres : rdnS l = some ws := by rw [HN.out, HS.out, hd]; simp [stepsS]
        have HRES := Lib.hid hres
        clear hd hres
        go_wp2_with fail
        refine bodyPost_ret (v := .tuple #[.slice au j cu, .bool true]) (by simp [results, Tryz.results103, go_sem]) rfl ⟨⟨_, by rw [HRES.out]; rfl, fun ls e => ?_⟩, HF.out⟩
        rw [HRES.out] at e
        cases e
        exact HR.out
end Go.Proofs.YtacekpdjapgfcaaGreatDoor

namespace Go.Q
open Go Go.RowKit
def nameOk (n : List (List Part)) : Bool := decide (n.length ≤ 64) && n.all (fun r => (rdnS r).isSome)
end Go.Q
namespace Go.Proofs.YtacekpdjapgfcaaGreatDoor
open Go Go.RowKit Go.Q
set_option maxRecDepth 20000 in
set_option maxHeartbeats 2000000 in
theorem right_any (v : Value) (n : List (List Part)) (w : World) (h : NameAt w v n) (hf : ∀ r ∈ n, fewB r) :
    Calls Tryz.prog 53 #[v] w fun e w' => e = .returned (.bool (nameOk n)) ∧ Fr (fun _ => False) w w' := by
  have H := Lib.hid h
  obtain ⟨a, cap, rfl, hc, hm, -⟩ := h
  rcases Nat.lt_or_ge 64 n.length with hl | hl
  · have hn : nameOk n = false := by unfold nameOk; rw [decide_eq_false (by omega), Bool.false_and]
    have HN := Lib.hid hn
    have q1 : (64 : Int) < (n.length : Int) := by omega
    clear hn
    go_enter Tryz.func53, Tryz.ntmps53
    go_wp2_with fail
    go_ret
    exact ⟨by rw [HN.out]; rfl, Fr.refl _⟩
  · have hn : nameOk n = n.all (fun r => (rdnS r).isSome) := by unfold nameOk; rw [decide_eq_true hl, Bool.true_and]
    have HN := Lib.hid hn
    have q1 : ¬ (64 : Int) < (n.length : Int) := by omega
    clear hn
    go_enter Tryz.func53, Tryz.ntmps53
    go_wp2_with fail
    go_loopg [12] n.length (fun g i wr => ∃ j : Nat, g = n.length - j ∧ j ≤ n.length ∧ i = .int .i64 j ∧ (∀ r ∈ n.take j, (rdnS r).isSome = true) ∧ Fr (fun _ => False) w wr)
    case atStart => exact ⟨0, rfl, Nat.zero_le _, rfl, by simp, Fr.refl _⟩
    case round =>
      obtain ⟨j, hg, hj, rfl, he, F⟩ := hrel
      have HG := Lib.hid hg
      have HE := Lib.hid he
      have HF := Lib.hid F
      clear hg he
      by_cases hjl : j < n.length
      · obtain ⟨a0, cap0, he, _, _, hx⟩ := H.out.old F
        simp only [Value.slice.injEq, true_and] at he
        obtain ⟨rfl, rfl⟩ := he
        obtain ⟨b, off, rfl, hy⟩ := hx (by omega)
        obtain ⟨r, hr⟩ : ∃ r, n[j]? = some r := ⟨_, List.getElem?_eq_getElem hjl⟩
        obtain ⟨x, e1, hA⟩ := hy j r hr
        have r1 : (0 : Int) ≤ (j : Int) := by omega
        have r2 : (j : Int) < (n.length : Int) := by omega
        have HW := Lib.hid (wholesRdn_any x r wr hA (hf r (List.mem_of_getElem? hr)))
        have HR := Lib.hid hr
        clear hx hy hr hA F
        obtain ⟨o, ho⟩ : ∃ o, o = (rdnS r).isSome := ⟨_, rfl⟩
        have HO := Lib.hid ho
        rw [← ho] at HW
        clear ho
        go_wp2_with fail
        refine HW.out.mono ?_
        rintro e w2 ⟨⟨v2, rfl, -⟩, F2⟩
        have G2 := HF.out.trans F2
        clear HF F2
        cases o with
        | false =>
          have hn : n.all (fun r => (rdnS r).isSome) = false := by
            rw [List.all_eq_false]
            exact ⟨r, List.mem_of_getElem? HR.out, by rw [← HO.out]; simp⟩
          have HNN := Lib.hid hn
          clear hn
          go_wp2_with fail
          go_ret
          exact ⟨by rw [HN.out, HNN.out]; rfl, G2⟩
        | true =>
          go_wp2_with fail
          go_roundg (n.length - (j + 1))
          case measure => rw [HG.out]; omega
          case rel =>
            refine ⟨j + 1, rfl, by omega, by go_num, fun s hs => ?_, G2⟩
            rw [List.take_add_one, HR.out] at hs
            rcases List.mem_append.1 hs with h | h
            · exact HE.out s h
            · simp at h
              rw [h, ← HO.out]
      · have hall : n.all (fun r => (rdnS r).isSome) = true := by
          rw [List.all_eq_true]
          have := HE.out
          rwa [List.take_of_length_le (by omega)] at this
        have HNN := Lib.hid hall
        clear hall
        go_wp2_with fail
        go_ret
        exact ⟨by rw [HN.out, HNN.out]; rfl, F⟩
end Go.Proofs.YtacekpdjapgfcaaGreatDoor

namespace Go.Q
open Go Go.RowKit
theorem numS_ge : ∀ {l : List UInt8} {i n v k : Nat}, numS i n l = .ok (v, k) → 31 ≤ v
  | [], _, _, _, _, h => by simp [numS] at h
  | x :: t, i, n, v, k, h => by
    simp only [numS] at h
    split at h
    · cases h
    split at h
    · split at h
      · cases h
      · simp only [Except.ok.injEq, Prod.mk.injEq] at h
        omega
    · exact numS_ge h
theorem ofNat_eq {x : UInt8} {n : Nat} (h : n = x.toNat) : UInt8.ofNat n = x := by subst h; simp
theorem tag_back {l : List UInt8} {t : Tag} {k : Nat} (h : readTagS l = .ok (t, k)) (ht : tagGood t) : k = 1 ∧ ∃ r, l = tagByte t :: r := by
  cases l with
  | nil => simp [readTagS] at h
  | cons x r =>
    have hx := x.toNat_lt
    simp only [readTagS] at h
    split at h
    · simp only [Except.ok.injEq, Prod.mk.injEq] at h
      obtain ⟨rfl, rfl⟩ := h
      refine ⟨rfl, r, ?_⟩
      congr 1
      unfold tagByte
      refine (ofNat_eq ?_).symm
      simp only [decide_eq_true_eq]
      split <;> omega
    · split at h
      · cases h
      · rename_i n k' hn
        simp only [Except.ok.injEq, Prod.mk.injEq] at h
        obtain ⟨rfl, -⟩ := h
        have := numS_ge hn
        have h3 := ht.2.2
        simp only at h3
        omega
theorem len_back {l : List UInt8} {v m : Nat} (h : readLenS l = .ok (v, m)) : l.take m = lenBytes v := by
  cases l with
  | nil => simp [readLenS] at h
  | cons x t =>
    have hx := x.toNat_lt
    simp only [readLenS] at h
    split at h
    · simp only [Except.ok.injEq, Prod.mk.injEq] at h
      obtain ⟨rfl, rfl⟩ := h
      rw [lenBytes, if_pos (by assumption), ofNat_eq rfl]
      rfl
    split at h
    · cases h
    rename_i h1 h2
    obtain ⟨n, hn⟩ : ∃ n, n = x.toNat - 128 := ⟨_, rfl⟩
    rw [← hn] at h
    have hn1 : 1 ≤ n ∧ n ≤ 4 := by omega
    have hxn : x = UInt8.ofNat (128 + n) := (ofNat_eq (by omega)).symm
    unfold longS at h
    split at h
    · cases h
    split at h
    · cases h
    split at h
    · cases h
    rename_i h3 h4 h5
    simp only [Except.ok.injEq, Prod.mk.injEq] at h
    obtain ⟨hv, rfl⟩ := h
    rw [List.take_succ_cons]
    match n, t with
    | 0, _ => omega
    | 1, [] => simp at h3
    | 1, a :: t =>
      have ha := a.toNat_lt
      simp only [List.take_succ_cons, List.take_zero, beS, List.foldl_cons, List.foldl_nil] at h4 h5 hv ⊢
      rw [lenBytes, if_neg (by omega), if_pos (by omega), ofNat_eq (x := a) (by omega), hxn]
      rfl
    | 2, [] => simp at h3
    | 2, [a] => simp at h3
    | 2, a :: b :: t =>
      have ha := a.toNat_lt
      have hb := b.toNat_lt
      simp only [List.take_succ_cons, List.take_zero, beS, List.foldl_cons, List.foldl_nil, List.head?_cons, Option.map_some, Option.some.injEq] at h4 h5 hv ⊢
      rw [lenBytes, if_neg (by omega), if_neg (by omega), if_pos (by omega), ofNat_eq (x := a) (by omega), ofNat_eq (x := b) (by omega), hxn]
      rfl
    | 3, [] => simp at h3
    | 3, [a] => simp at h3
    | 3, [a, b] => simp at h3
    | 3, a :: b :: c :: t =>
      have ha := a.toNat_lt
      have hb := b.toNat_lt
      have hc := c.toNat_lt
      simp only [List.take_succ_cons, List.take_zero, beS, List.foldl_cons, List.foldl_nil, List.head?_cons, Option.map_some, Option.some.injEq] at h4 h5 hv ⊢
      rw [lenBytes, if_neg (by omega), if_neg (by omega), if_neg (by omega), if_pos (by omega), ofNat_eq (x := a) (by omega), ofNat_eq (x := b) (by omega), ofNat_eq (x := c) (by omega), hxn]
      rfl
    | 4, [] => simp at h3
    | 4, [a] => simp at h3
    | 4, [a, b] => simp at h3
    | 4, [a, b, c] => simp at h3
    | 4, a :: b :: c :: d :: t =>
      have ha := a.toNat_lt
      have hb := b.toNat_lt
      have hc := c.toNat_lt
      have hd := d.toNat_lt
      simp only [List.take_succ_cons, List.take_zero, beS, List.foldl_cons, List.foldl_nil, List.head?_cons, Option.map_some, Option.some.injEq] at h4 h5 hv ⊢
      rw [lenBytes, if_neg (by omega), if_neg (by omega), if_neg (by omega), if_neg (by omega), ofNat_eq (x := a) (by omega), ofNat_eq (x := b) (by omega), ofNat_eq (x := c) (by omega), ofNat_eq (x := d) (by omega), hxn]
      rfl
    | n + 5, _ => omega
theorem readS_parts {l : List UInt8} {t : Tag} {n k : Nat} (h : readS l = .ok (t, n, k)) : ∃ j m, readTagS l = .ok (t, j) ∧ readLenS (l.drop j) = .ok (n, m) ∧ k = j + m := by
  unfold readS at h
  split at h
  · cases h
  · rename_i t' j hj
    split at h
    · cases h
    · rename_i n' m hm
      simp only [Except.ok.injEq, Prod.mk.injEq] at h
      obtain ⟨rfl, rfl, rfl⟩ := h
      exact ⟨j, m, hj, hm, rfl⟩
theorem readS_back {l : List UInt8} {t : Tag} {n k : Nat} (h : readS l = .ok (t, n, k)) (ht : tagGood t) : l.take k = tagByte t :: lenBytes n ∧ n ≤ 16777216 ∧ k ≤ l.length := by
  have hle := readS_le h
  obtain ⟨j, m, h1, h2, rfl⟩ := readS_parts h
  obtain ⟨rfl, r, rfl⟩ := tag_back h1 ht
  have h3 := len_back h2
  refine ⟨?_, hle.2, hle.1⟩
  rw [Nat.add_comm, List.take_succ_cons, ← h3]
  rfl
theorem take_both {α : Type} (l : List α) (k n : Nat) : l.take (k + n) = l.take k ++ (l.drop k).take n := by
  rw [List.take_add]
theorem open_back {t : Tag} {l y : List UInt8} {k : Nat} (h : openS t l = .ok (y, k)) (ht : tagGood t) : l.take k = wrapS t y ∧ y.length ≤ 16777216 ∧ k ≤ l.length ∧ y.length < k := by
  unfold openS at h
  split at h
  · cases h
  rename_i u n j hr
  split at h
  · cases h
  rename_i hu
  split at h
  · cases h
  rename_i hn
  simp only [Except.ok.injEq, Prod.mk.injEq] at h
  obtain ⟨rfl, rfl⟩ := h
  have hu' : u = t := by simpa using hu
  subst hu'
  obtain ⟨h1, h2, h3⟩ := readS_back hr ht
  have hp := readS_pos hr
  have hl : ((l.drop j).take n).length = n := by rw [List.length_take, List.length_drop]; omega
  refine ⟨?_, by rw [hl]; exact h2, by omega, by rw [hl]; omega⟩
  rw [take_both, h1, wrapS, hl]
  rfl
theorem oneE {l : List UInt8} {e : Int} (h : readS l = .error e) : oneS l = .error e := by unfold oneS; rw [h]
theorem oneEnd {l : List UInt8} {t : Tag} {n k : Nat} (h : readS l = .ok (t, n, k)) (hn : l.length - k < n) : oneS l = .error 3 := by unfold oneS; rw [h]; exact if_pos hn
theorem oneOk {l : List UInt8} {t : Tag} {n k : Nat} (h : readS l = .ok (t, n, k)) (hn : ¬ l.length - k < n) : oneS l = .ok (t, k, k + n) := by unfold oneS; rw [h]; exact if_neg hn
theorem one_alone {y : List UInt8} {t : Tag} {k n : Nat} (h : oneS y = .ok (t, k, n)) (hn : ¬ n < y.length) : singleB y = true := by
  have hp := oneS_pos h
  have h0 : y ≠ [] := by
    intro e
    subst e
    simp [oneS, readS, readTagS] at h
  unfold singleB
  rw [allS_ok h0 h, List.drop_of_length_le (by omega), allS_nil]
  rfl
def numberS : Nat → Nat → List UInt8 → Except Int (Nat × Nat)
  | _, _, [] => .error 6
  | i, n, x :: t => if i = 0 ∧ x.toNat = 128 then .error 6 else if 2147483647 < n * 128 + x.toNat % 128 then .error 2 else if x.toNat < 128 then .ok (n * 128 + x.toNat, i + 1) else numberS (i + 1) (n * 128 + x.toNat % 128) t
def addS (o : List Int) (m : Nat) : List Int := if o = [] then (if m < 80 then [((m / 40 : Nat) : Int), ((m % 40 : Nat) : Int)] else [2, (m : Int) - 80]) else o ++ [(m : Int)]
def oidStS (o : List Int) (i n : Nat) : List UInt8 → Except Int (List Int)
  | [] => if i = 0 then .ok o else .error 6
  | x :: t => if i = 0 ∧ x.toNat = 128 then .error 6 else if 2147483647 < n * 128 + x.toNat % 128 then .error 2 else if x.toNat < 128 then (if o.length = 32 then .error 2 else oidStS (addS o (n * 128 + x.toNat)) 0 0 t) else oidStS o (i + 1) (n * 128 + x.toNat % 128) t
def oidParseS (l : List UInt8) : Except Int (List Int) := if l = [] then .error 6 else oidStS [] 0 0 l
theorem oidSt_num (o : List Int) : ∀ (l : List UInt8) (i n : Nat), (i ≠ 0 ∨ l ≠ []) → oidStS o i n l = match numberS i n l with | .error e => .error e | .ok (m, k) => if o.length = 32 then .error 2 else oidStS (addS o m) 0 0 (l.drop (k - i))
  | [], i, n, h => by
    rcases h with h | h
    · simp [oidStS, numberS, h]
    · exact absurd rfl h
  | x :: t, i, n, _ => by
    simp only [oidStS, numberS]
    split
    · rfl
    split
    · rfl
    split
    · simp only [show i + 1 - i = 1 from by omega, List.drop_succ_cons, List.drop_zero]
    · have ih := oidSt_num o t (i + 1) (n * 128 + x.toNat % 128) (.inl (by omega))
      rw [ih]
      have hpos : ∀ (l : List UInt8) (i n m k : Nat), numberS i n l = .ok (m, k) → i < k := by
        intro l
        induction l with
        | nil => intro i n m k h; simp [numberS] at h
        | cons x t ih =>
          intro i n m k h
          simp only [numberS] at h
          split at h
          · cases h
          split at h
          · cases h
          split at h
          · simp only [Except.ok.injEq, Prod.mk.injEq] at h
            omega
          · have := ih _ _ _ _ h
            omega
      cases hn : numberS (i + 1) (n * 128 + x.toNat % 128) t with
      | error e => rfl
      | ok mk =>
        obtain ⟨m, k⟩ := mk
        have := hpos _ _ _ _ _ hn
        simp only [show k - i = (k - (i + 1)) + 1 from by omega, List.drop_succ_cons]
theorem numberS_back : ∀ (l : List UInt8) (i n m k : Nat), (i = 0 → n = 0) → (i ≠ 0 → n ≠ 0) → numberS i n l = .ok (m, k) → ∃ j, k = i + j ∧ base128 m = (up7 5 n).reverse ++ l.take j ∧ m ≤ 2147483647 ∧ 1 ≤ j ∧ j ≤ l.length
  | [], i, n, m, k, _, _, h => by simp [numberS] at h
  | x :: t, i, n, m, k, h1, h2, h => by
    have hx := x.toNat_lt
    simp only [numberS] at h
    split at h
    · cases h
    rename_i hf
    split at h
    · cases h
    rename_i hm
    split at h
    · rename_i hs
      simp only [Except.ok.injEq, Prod.mk.injEq] at h
      obtain ⟨rfl, rfl⟩ := h
      refine ⟨1, rfl, ?_, by omega, Nat.le_refl _, by simp⟩
      unfold base128
      rw [show (n * 128 + x.toNat) % 128 = x.toNat from by omega, show (n * 128 + x.toNat) / 128 = n from by omega, ofNat_eq rfl]
      simp
    · rename_i hs
      have hn' : n * 128 + x.toNat % 128 ≠ 0 := by
        rcases Nat.eq_zero_or_pos i with h0 | h0
        · have := h1 h0
          omega
        · have := h2 (by omega)
          omega
      obtain ⟨j, rfl, g1, g2, g3, g4⟩ := numberS_back t (i + 1) _ m k (fun h => by omega) (fun _ => hn') h
      refine ⟨j + 1, by omega, ?_, g2, by omega, by simp; omega⟩
      rw [g1]
      have e : up7 5 (n * 128 + x.toNat % 128) = x :: up7 5 n := by
        rw [up7, if_neg hn', show (n * 128 + x.toNat % 128) / 128 = n from by omega, ofNat_eq (x := x) (by omega), up7_ge 4 n (Nat.lt_of_le_of_lt (show n ≤ 16777216 by omega) (by decide))]
      rw [e]
      simp
def partBytes (o : List Int) : List UInt8 := if o = [] then [] else oidBytes o
def goodO (o : List Int) : Prop := o.length ≤ 32 ∧ (o = [] ∨ oidOk o = true)
theorem addS_good {o : List Int} (h : goodO o) (hl : o.length ≠ 32) {m : Nat} (hm : m ≤ 2147483647) : oidOk (addS o m) = true ∧ goodO (addS o m) ∧ partBytes (addS o m) = partBytes o ++ base128 m ∧ addS o m ≠ [] := by
  obtain ⟨h1, h2⟩ := h
  have key : oidOk (addS o m) = true ∧ (addS o m).length ≤ 32 ∧ partBytes (addS o m) = partBytes o ++ base128 m ∧ addS o m ≠ [] := by
    rcases h2 with rfl | h2
    · unfold addS
      rw [if_pos rfl]
      have hp : partBytes [] = [] := rfl
      rw [hp, List.nil_append]
      split
      · refine ⟨?_, by simp, ?_, by simp⟩
        · simp [oidOk, arcOk, twoOk]
          omega
        · unfold partBytes
          rw [if_neg (by simp)]
          simp only [oidBytes, Go.Proofs.YtacekpdjapgfcaaGreatDoor.numsS, List.getD_cons_zero, List.getD_cons_succ, List.drop_succ_cons, List.drop_zero, List.flatMap_cons, List.flatMap_nil, List.append_nil]
          congr 1
          omega
      · refine ⟨?_, by simp, ?_, by simp⟩
        · simp [oidOk, arcOk, twoOk]
          omega
        · unfold partBytes
          rw [if_neg (by simp)]
          simp only [oidBytes, Go.Proofs.YtacekpdjapgfcaaGreatDoor.numsS, List.getD_cons_zero, List.getD_cons_succ, List.drop_succ_cons, List.drop_zero, List.flatMap_cons, List.flatMap_nil, List.append_nil]
          congr 1
          omega
    · have h0 : o ≠ [] := by rintro rfl; simp [oidOk] at h2
      unfold oidOk at h2
      simp only [Bool.and_eq_true, decide_eq_true_eq] at h2
      obtain ⟨⟨⟨g1, g2⟩, g3⟩, g4⟩ := h2
      unfold addS
      rw [if_neg h0]
      obtain ⟨a, b, r, rfl⟩ : ∃ a b r, o = a :: b :: r := by
        match o, g1 with
        | a :: b :: r, _ => exact ⟨a, b, r, rfl⟩
        | [a], g1 => simp at g1
        | [], g1 => simp at g1
      have ha : arcOk (m : Int) = true := by unfold arcOk; exact decide_eq_true (by omega)
      simp only [List.length_cons] at g1 g2 hl h1
      refine ⟨?_, by simp; omega, ?_, by simp⟩
      · unfold oidOk
        simp only [Bool.and_eq_true, decide_eq_true_eq]
        refine ⟨⟨⟨by simp, by simp; omega⟩, ?_⟩, g4⟩
        rw [List.all_append, g3]
        simp [ha]
      · unfold partBytes
        rw [if_neg (by simp), if_neg (by simp)]
        simp only [oidBytes, Go.Proofs.YtacekpdjapgfcaaGreatDoor.numsS, List.cons_append, List.getD_cons_zero, List.getD_cons_succ, List.drop_succ_cons, List.drop_zero, List.flatMap_cons, List.flatMap_append, List.flatMap_nil, List.append_nil, List.append_assoc, Int.toNat_natCast]
  exact ⟨key.1, ⟨key.2.1, .inr key.1⟩, key.2.2⟩
theorem oidSt_back : ∀ (f : Nat) (l : List UInt8) (o r : List Int), l.length ≤ f → goodO o → oidStS o 0 0 l = .ok r → goodO r ∧ partBytes r = partBytes o ++ l
  | 0, l, o, r, hf, ho, h => by
    obtain rfl : l = [] := List.length_eq_zero_iff.1 (by omega)
    simp only [oidStS, ↓reduceIte, Except.ok.injEq] at h
    subst h
    exact ⟨ho, by simp⟩
  | f + 1, [], o, r, hf, ho, h => by
    simp only [oidStS, ↓reduceIte, Except.ok.injEq] at h
    subst h
    exact ⟨ho, by simp⟩
  | f + 1, x :: t, o, r, hf, ho, h => by
    rw [oidSt_num o (x :: t) 0 0 (.inr (by simp))] at h
    cases hn : numberS 0 0 (x :: t) with
    | error e => rw [hn] at h; cases h
    | ok mk =>
      obtain ⟨m, k⟩ := mk
      rw [hn] at h
      simp only at h
      split at h
      · cases h
      rename_i hl
      obtain ⟨j, rfl, g1, g2, g3, g4⟩ := numberS_back _ 0 0 m k (fun _ => rfl) (fun h => absurd rfl h) hn
      rw [up7_zero, List.reverse_nil, List.nil_append] at g1
      rw [Nat.zero_add, Nat.sub_zero] at h
      obtain ⟨-, a2, a3, -⟩ := addS_good ho hl g2
      obtain ⟨b1, b2⟩ := oidSt_back f _ _ r (by rw [List.length_drop]; simp only [List.length_cons] at hf ⊢; omega) a2 h
      refine ⟨b1, ?_⟩
      rw [b2, a3, g1, List.append_assoc, List.take_append_drop]
theorem oidParse_back {l : List UInt8} {o : List Int} (h : oidParseS l = .ok o) : oidOk o = true ∧ oidBytes o = l := by
  unfold oidParseS at h
  split at h
  · cases h
  rename_i h0
  obtain ⟨h1, h2⟩ := oidSt_back l.length l [] o (Nat.le_refl _) ⟨by simp, .inl rfl⟩ h
  have h3 : partBytes [] = [] := rfl
  rw [h3, List.nil_append] at h2
  rcases h1.2 with rfl | h4
  · rw [h3] at h2
    exact absurd h2.symm h0
  · refine ⟨h4, ?_⟩
    rw [← h2]
    unfold partBytes
    rw [if_neg (by rintro rfl; simp [oidOk] at h4)]
def oidReadS (l : List UInt8) : Except Int (List Int × Nat) :=
  match openS (tagOf 6) l with
  | .error e => .error e
  | .ok (x, k) => match oidParseS x with
    | .error e => .error e
    | .ok o => .ok (o, k)
theorem tag6 : tagGood (tagOf 6) := ⟨by decide, by decide⟩
theorem tag16 : tagGood (tagOf 16) := ⟨by decide, by decide⟩
theorem tag17 : tagGood (tagOf 17) := ⟨by decide, by decide⟩
theorem oidRead_back {l : List UInt8} {o : List Int} {k : Nat} (h : oidReadS l = .ok (o, k)) : oidOk o = true ∧ l.take k = oidWhole o ∧ k ≤ l.length ∧ 1 ≤ k := by
  unfold oidReadS at h
  split at h
  · cases h
  rename_i x k' hx
  split at h
  · cases h
  rename_i o' ho
  simp only [Except.ok.injEq, Prod.mk.injEq] at h
  obtain ⟨rfl, rfl⟩ := h
  obtain ⟨h1, h2, h3, h4⟩ := open_back hx tag6
  obtain ⟨g1, g2⟩ := oidParse_back ho
  refine ⟨g1, ?_, h3, by omega⟩
  rw [h1, oidWhole, g2]
def partReadS (l : List UInt8) : Except Int (Part × Nat) :=
  match openS (tagOf 16) l with
  | .error e => .error e
  | .ok (y, m) => match oidReadS y with
    | .error e => .error e
    | .ok (o, q) => match oneS (y.drop q) with
      | .error e => .error e
      | .ok (_, _, n) => if n < y.length - q then .error 7 else .ok (⟨o, y.drop q⟩, m)
theorem partRead_back {l : List UInt8} {p : Part} {m : Nat} (h : partReadS l = .ok (p, m)) : attrS p.o p.b = some (l.take m) ∧ m ≤ l.length ∧ 1 ≤ m ∧ p.b.length ≤ l.length := by
  unfold partReadS at h
  split at h
  · cases h
  rename_i y m' hy
  split at h
  · cases h
  rename_i o q ho
  split at h
  · cases h
  rename_i t k n hn
  split at h
  · cases h
  rename_i hne
  simp only [Except.ok.injEq, Prod.mk.injEq] at h
  obtain ⟨rfl, rfl⟩ := h
  obtain ⟨h1, h2, h3, h4⟩ := open_back hy tag16
  obtain ⟨g1, g2, g3, g4⟩ := oidRead_back ho
  have hs := one_alone hn (by rw [List.length_drop]; exact hne)
  refine ⟨?_, h3, by omega, by simp only [List.length_drop]; omega⟩
  unfold attrS
  rw [g1, hs, if_pos (show (true && true) = true from rfl), h1, ← g2, List.take_append_drop]
def rdnGoS : Nat → List Part → List UInt8 → List UInt8 → Except Int (List Part)
  | _, out, _, [] => if out.length = 0 then .error 6 else .ok out
  | 0, _, _, _ :: _ => .error 3
  | f + 1, out, last, x :: t =>
    if out.length = 16 then .error 2 else
    match partReadS (x :: t) with
    | .error e => .error e
    | .ok (p, m) => if out.length ≠ 0 ∧ cmpS last ((x :: t).take m) = 0 then .error 10 else if out.length ≠ 0 ∧ 0 < cmpS last ((x :: t).take m) then .error 9 else rdnGoS f (out ++ [p]) ((x :: t).take m) ((x :: t).drop m)
theorem rdnGo_fuel : ∀ (f g : Nat) (out : List Part) (last l : List UInt8), l.length ≤ f → l.length ≤ g → rdnGoS f out last l = rdnGoS g out last l := by
  intro f
  induction f with
  | zero =>
    intro g out last l h _
    obtain rfl : l = [] := List.length_eq_zero_iff.1 (by omega)
    cases g <;> rfl
  | succ f ih =>
    intro g out last l h h2
    cases l with
    | nil => cases g <;> rfl
    | cons x t =>
      simp only [List.length_cons] at h h2
      obtain ⟨g, rfl⟩ : ∃ g', g = g' + 1 := ⟨g - 1, by omega⟩
      simp only [rdnGoS]
      cases hp : partReadS (x :: t) with
      | error e => rfl
      | ok v =>
        obtain ⟨p, m⟩ := v
        have hb := partRead_back hp
        have hl : ((x :: t).drop m).length ≤ t.length := by simp only [List.length_drop, List.length_cons]; omega
        simp only
        rw [ih g _ _ _ (by omega) (by omega)]
def rdnSt (out : List Part) (last l : List UInt8) : Except Int (List Part) := rdnGoS l.length out last l
theorem rdnSt_end (out : List Part) (last : List UInt8) : rdnSt out last [] = if out.length = 0 then .error 6 else .ok out := rfl
theorem rdnSt_full {out : List Part} {last l : List UInt8} (h0 : l ≠ []) (h : out.length = 16) : rdnSt out last l = .error 2 := by
  cases l with
  | nil => exact absurd rfl h0
  | cons x t => simp only [rdnSt, List.length_cons, rdnGoS, if_pos h]
theorem rdnSt_err {out : List Part} {last l : List UInt8} {e : Int} (h0 : l ≠ []) (h : out.length ≠ 16) (hp : partReadS l = .error e) : rdnSt out last l = .error e := by
  cases l with
  | nil => exact absurd rfl h0
  | cons x t => simp only [rdnSt, List.length_cons, rdnGoS, if_neg h, hp]
theorem rdnSt_ok {out : List Part} {last l : List UInt8} {p : Part} {m : Nat} (h : out.length ≠ 16) (hp : partReadS l = .ok (p, m)) : rdnSt out last l = if out.length ≠ 0 ∧ cmpS last (l.take m) = 0 then .error 10 else if out.length ≠ 0 ∧ 0 < cmpS last (l.take m) then .error 9 else rdnSt (out ++ [p]) (l.take m) (l.drop m) := by
  have hb := partRead_back hp
  cases l with
  | nil => simp at hb; omega
  | cons x t =>
    simp only [rdnSt, List.length_cons, rdnGoS, if_neg h, hp]
    rw [rdnGo_fuel t.length ((x :: t).drop m).length _ _ _ (by simp only [List.length_drop, List.length_cons]; omega) (Nat.le_refl _)]
def rdnReadS (l : List UInt8) : Except Int (List Part × Nat) :=
  match openS (tagOf 17) l with
  | .error e => .error e
  | .ok (x, k) => match rdnSt [] [] x with
    | .error e => .error e
    | .ok r => .ok (r, k)
theorem rdnRead_len {l : List UInt8} {r : List Part} {k : Nat} (h : rdnReadS l = .ok (r, k)) : k ≤ l.length ∧ 1 ≤ k := by
  unfold rdnReadS at h
  split at h
  · cases h
  rename_i x k' hx
  split at h
  · cases h
  simp only [Except.ok.injEq, Prod.mk.injEq] at h
  obtain ⟨-, rfl⟩ := h
  obtain ⟨-, -, h3, h4⟩ := open_back hx tag17
  exact ⟨h3, by omega⟩
def nameGoS : Nat → List (List Part) → List UInt8 → Except Int (List (List Part))
  | _, out, [] => .ok out
  | 0, _, _ :: _ => .error 3
  | f + 1, out, x :: t =>
    if out.length = 64 then .error 2 else
    match rdnReadS (x :: t) with
    | .error e => .error e
    | .ok (r, k) => nameGoS f (out ++ [r]) ((x :: t).drop k)
theorem nameGo_fuel : ∀ (f g : Nat) (out : List (List Part)) (l : List UInt8), l.length ≤ f → l.length ≤ g → nameGoS f out l = nameGoS g out l := by
  intro f
  induction f with
  | zero =>
    intro g out l h _
    obtain rfl : l = [] := List.length_eq_zero_iff.1 (by omega)
    cases g <;> rfl
  | succ f ih =>
    intro g out l h h2
    cases l with
    | nil => cases g <;> rfl
    | cons x t =>
      simp only [List.length_cons] at h h2
      obtain ⟨g, rfl⟩ : ∃ g', g = g' + 1 := ⟨g - 1, by omega⟩
      simp only [nameGoS]
      cases hp : rdnReadS (x :: t) with
      | error e => rfl
      | ok v =>
        obtain ⟨p, m⟩ := v
        have hb := rdnRead_len hp
        have hl : ((x :: t).drop m).length ≤ t.length := by simp only [List.length_drop, List.length_cons]; omega
        simp only
        rw [ih g _ _ (by omega) (by omega)]
def nameSt (out : List (List Part)) (l : List UInt8) : Except Int (List (List Part)) := nameGoS l.length out l
theorem nameSt_full {out : List (List Part)} {l : List UInt8} (h0 : l ≠ []) (h : out.length = 64) : nameSt out l = .error 2 := by
  cases l with
  | nil => exact absurd rfl h0
  | cons x t => simp only [nameSt, List.length_cons, nameGoS, if_pos h]
theorem nameSt_err {out : List (List Part)} {l : List UInt8} {e : Int} (h0 : l ≠ []) (h : out.length ≠ 64) (hp : rdnReadS l = .error e) : nameSt out l = .error e := by
  cases l with
  | nil => exact absurd rfl h0
  | cons x t => simp only [nameSt, List.length_cons, nameGoS, if_neg h, hp]
theorem nameSt_ok {out : List (List Part)} {l : List UInt8} {r : List Part} {k : Nat} (h : out.length ≠ 64) (hp : rdnReadS l = .ok (r, k)) : nameSt out l = nameSt (out ++ [r]) (l.drop k) := by
  have hb := rdnRead_len hp
  cases l with
  | nil => simp at hb; omega
  | cons x t =>
    simp only [nameSt, List.length_cons, nameGoS, if_neg h, hp]
    exact nameGo_fuel t.length ((x :: t).drop k).length _ _ (by simp only [List.length_drop, List.length_cons]; omega) (Nat.le_refl _)
def nameReadS (l : List UInt8) : Except Int (List (List Part) × Nat) :=
  match openS (tagOf 16) l with
  | .error e => .error e
  | .ok (x, k) => match nameSt [] x with
    | .error e => .error e
    | .ok n => .ok (n, k)
def nameParseS (l : List UInt8) : Except Int (List (List Part)) :=
  match nameReadS l with
  | .error e => .error e
  | .ok (n, k) => if k < l.length then .error 7 else .ok n
end Go.Q

namespace Go.Q
open Go Go.RowKit
abbrev str (l : List UInt8) : Value := .string ⟨l.toArray⟩
theorem ba_cat (a b : List UInt8) : (ByteArray.mk a.toArray ++ ByteArray.mk b.toArray) = ByteArray.mk (a ++ b).toArray := by
  apply ByteArray.ext
  rw [ByteArray.data_append]
  simp
end Go.Q
namespace Go.Proofs.YtacekpdjapgfcaaGreatDoor
open Go Go.RowKit Go.Q
theorem str_of {w : World} {v : Value} {l : List UInt8} (h : Bytes w v l) : (Go.convert 23 9 v).run Tryz.prog w = .ok (str l) w := by
  obtain ⟨a, cap, rfl, hc, hm, hx⟩ := h.form
  rcases Nat.eq_zero_or_pos l.length with h0 | h0
  · obtain rfl : l = [] := List.length_eq_zero_iff.1 h0
    exact run_convert_bytes_zero w 23 5 Tryz.underlying23 Tryz.underlying5 a cap 9 Tryz.underlying9
  · obtain ⟨b, o, rfl, hy⟩ := hx h0
    exact run_convert_bytes_back w 23 9 5 _ cap l Tryz.underlying23 Tryz.underlying5 Tryz.underlying9 (fun j hj => by
      rw [show (⟨b, o, none⟩ : Addr).add j = ⟨b, o + j, none⟩ from by unfold Addr.add; split <;> simp_all]
      exact hy j _ (List.getElem?_eq_getElem hj))
theorem bytes_of_str (w : World) (l : List UInt8) (hl : l.length ≤ 1099511627776) : ∃ c w', (Go.convert 9 23 (str l)).run Tryz.prog w = .ok (.slice (some ⟨w.heap.size, 0, none⟩) l.length c) w' ∧ Bytes w' (.slice (some ⟨w.heap.size, 0, none⟩) l.length c) l ∧ Fr (fun _ => False) w w' ∧ w'.heap.size = w.heap.size + 1 := by
  have hr := Lib.run_convert_string_bytes (P := Tryz.prog) w 9 23 5 ⟨l.toArray⟩ Tryz.underlying9 Tryz.underlying23 Tryz.underlying5
  have hs : (ByteArray.mk l.toArray).size = l.length := by simp [ByteArray.size]
  rw [hs] at hr
  refine ⟨_, _, hr, ?_, ⟨rfl, rfl, rfl, by rw [Lib.bytesWorld_size]; omega, fun k hk _ => Lib.bytesWorld_at_old _ _ _ _ hk⟩, Lib.bytesWorld_size _ _ _⟩
  refine ⟨_, _, by rw [byteCells_len], ?_, ?_, fun _ => ⟨w.heap.size, 0, rfl, fun i u hu => ?_⟩⟩
  · rw [byteCells_len]; exact grownCap_ge _ _ _ _
  · exact grownCap_le_maxLen _ _ _ _ (by unfold maxLen; omega)
  · rw [byteCells_get] at hu
    cases hli : l[i]? with
    | none => rw [hli] at hu; cases hu
    | some x =>
      rw [hli] at hu
      simp only [Option.map_some, Option.some.injEq] at hu
      subst hu
      have hi := (List.getElem?_eq_some_iff.1 hli).1
      rw [Nat.zero_add, Lib.bytesWorld_cell _ _ _ _ (by rw [hs]; exact hi)]
      simp [List.getD_eq_getElem?_getD, hli]
end Go.Proofs.YtacekpdjapgfcaaGreatDoor

namespace Go.Q
open Go Go.RowKit
def amongB (n : Int) (l : List UInt8) : Bool := l.any fun x => (x.toNat : Int) == n
theorem among_take {n : Int} {l : List UInt8} {j : Nat} {x : UInt8} (h : l[j]? = some x) : amongB n (l.take (j + 1)) = (amongB n (l.take j) || ((x.toNat : Int) == n)) := by
  unfold amongB
  rw [List.take_add_one, h]
  simp
theorem among_mem {n : Int} {l : List UInt8} {j : Nat} {x : UInt8} (h : l[j]? = some x) (hx : ((x.toNat : Int) == n) = true) : amongB n l = true :=
  List.any_eq_true.2 ⟨x, List.mem_of_getElem? h, hx⟩
abbrev printL : List UInt8 := [97, 98, 99, 100, 101, 102, 103, 104, 105, 106, 107, 108, 109, 110, 111, 112, 113, 114, 115, 116, 117, 118, 119, 120, 121, 122, 65, 66, 67, 68, 69, 70, 71, 72, 73, 74, 75, 76, 77, 78, 79, 80, 81, 82, 83, 84, 85, 86, 87, 88, 89, 90, 48, 49, 50, 51, 52, 53, 54, 55, 56, 57, 32, 39, 40, 41, 43, 44, 45, 46, 47, 58, 61, 63]
set_option maxRecDepth 100000 in
theorem among_small : ∀ m : Fin 256, amongB (m.val : Int) printL = printables.contains (UInt8.ofNat m.val) := by decide +kernel
theorem among_may (n : Int) : amongB n printL = mayS 19 n := by
  simp only [mayS, show ¬ ((19 : Int) = 12) from by decide, if_false, if_true]
  by_cases h : 0 ≤ n ∧ n < 256
  · obtain ⟨m, rfl⟩ : ∃ m : Nat, n = m := ⟨n.toNat, by omega⟩
    have := among_small ⟨m, by omega⟩
    simp only at this
    rw [this, decide_eq_true h, Bool.true_and, Int.toNat_natCast]
  · rw [decide_eq_false h, Bool.false_and, amongB, List.any_eq_false]
    intro x _
    have := x.toNat_lt
    simp only [beq_iff_eq]
    omega
end Go.Q
namespace Go.Proofs.YtacekpdjapgfcaaGreatDoor
open Go Go.RowKit Go.Q
set_option maxRecDepth 20000 in
theorem r06Kind_any (k : Int) (w : World) :
    Calls Tryz.prog 269 #[.int .i64 k] w fun e w' => e = .returned (.bool (Go.Q.kindOk k)) ∧ w = w' := by
  by_cases h1 : k = 12
  · subst h1
    go_enter Tryz.func269, Tryz.ntmps269
    go_wp2_with fail
    go_ret
    exact ⟨rfl, rfl⟩
  by_cases h2 : k = 19
  · subst h2
    go_enter Tryz.func269, Tryz.ntmps269
    go_wp2_with fail
    go_ret
    exact ⟨rfl, rfl⟩
  by_cases h3 : k = 20
  · subst h3
    go_enter Tryz.func269, Tryz.ntmps269
    go_wp2_with fail
    go_ret
    exact ⟨rfl, rfl⟩
  by_cases h4 : k = 22
  · subst h4
    go_enter Tryz.func269, Tryz.ntmps269
    go_wp2_with fail
    go_ret
    exact ⟨rfl, rfl⟩
  by_cases h5 : k = 26
  · subst h5
    go_enter Tryz.func269, Tryz.ntmps269
    go_wp2_with fail
    go_ret
    exact ⟨rfl, rfl⟩
  have hk : Go.Q.kindOk k = (k == 30) := by
    unfold Go.Q.kindOk
    rw [Bool.eq_iff_iff, decide_eq_true_eq, beq_iff_eq]
    omega
  have HK := Lib.hid hk
  have q1 : (k == 12) = false := beq_eq_false_iff_ne.2 h1
  have q2 : (k == 19) = false := beq_eq_false_iff_ne.2 h2
  have q3 : (k == 20) = false := beq_eq_false_iff_ne.2 h3
  have q4 : (k == 22) = false := beq_eq_false_iff_ne.2 h4
  have q5 : (k == 26) = false := beq_eq_false_iff_ne.2 h5
  clear hk
  go_enter Tryz.func269, Tryz.ntmps269
  go_wp2_with fail
  go_ret
  exact ⟨by rw [HK.out]; rfl, rfl⟩
set_option maxRecDepth 20000 in
theorem r06among_any (n : Int) (l : List UInt8) (w : World) (hl : l.length ≤ 1099511627776) :
    Calls Tryz.prog 307 #[.int .i64 n, str l] w fun e w' => e = .returned (.bool (amongB n l)) ∧ w = w' := by
  have hsz : (ByteArray.mk l.toArray).size = l.length := by simp [ByteArray.size]
  go_enter Tryz.func307, Tryz.ntmps307
  go_wp2_with fail
  go_loopg [5] l.length (fun g i wr => ∃ j : Nat, g = l.length - j ∧ j ≤ l.length ∧ i = .int .i64 j ∧ amongB n (l.take j) = false ∧ wr = w)
  case atStart => exact ⟨0, rfl, Nat.zero_le _, rfl, rfl, rfl⟩
  case round =>
    obtain ⟨j, hg, hj, rfl, hall, rfl⟩ := hrel
    have HG := Lib.hid hg
    have HA := Lib.hid hall
    clear hg hall
    by_cases hjl : j < l.length
    · obtain ⟨x, hxj⟩ : ∃ x, l[j]? = some x := ⟨_, List.getElem?_eq_getElem hjl⟩
      have hix : ∀ w, (Instr.index 9 (str l) (.int .i64 j)).run Tryz.prog w = .ok (.int .u8 x.toNat) w := fun w => by
        rw [run_index_string w 9 _ .i64 j Tryz.underlying9, dif_pos ⟨by omega, by rw [hsz]; omega⟩]
        obtain ⟨h, rfl⟩ := List.getElem?_eq_some_iff.1 hxj
        simp [ByteArray.getElem_eq_getElem_data]
      have q2 : (j : Int) < (l.length : Int) := by omega
      have HT := Lib.hid (among_take (n := n) hxj)
      have HM := Lib.hid (fun h => among_mem (n := n) hxj h)
      clear hxj
      have hy0 : (0 : Int) ≤ (x.toNat : Int) := by omega
      have hy1 : (x.toNat : Int) < 256 := by have := x.toNat_lt; omega
      have hyw : wrap64 (x.toNat : Int) = (x.toNat : Int) := by unfold wrap64; omega
      generalize (x.toNat : Int) = y at *
      rcases Bool.eq_false_or_eq_true (y == n) with h | h
      · go_wp2_with fail
        go_ret
        exact ⟨by rw [HM.out h]; rfl, rfl⟩
      · go_wp2_with fail
        go_roundg (l.length - (j + 1))
        case measure => rw [HG.out]; omega
        case rel => exact ⟨j + 1, rfl, by omega, by go_num, by rw [HT.out, HA.out, h]; rfl, rfl⟩
    · have q2 : ¬ (j : Int) < (l.length : Int) := by omega
      have hA : amongB n l = false := by
        have := HA.out
        rwa [List.take_of_length_le (by omega)] at this
      have HAA := Lib.hid hA
      clear hA
      go_wp2_with fail
      go_ret
      exact ⟨by rw [HAA.out]; rfl, rfl⟩
set_option maxRecDepth 20000 in
theorem r06May_any (k n : Int) (w : World) :
    Calls Tryz.prog 271 #[.int .i64 k, .int .i64 n] w fun e w' => e = .returned (.bool (mayS k n)) ∧ w = w' := by
  by_cases h1 : n < 0
  · have hm : mayS k n = false := by
      unfold mayS
      rw [decide_eq_false (by omega : ¬ (0 ≤ n ∧ n ≤ 1114111)), decide_eq_false (by omega : ¬ (0 ≤ n ∧ n < 256)), decide_eq_false (by omega : ¬ (0 ≤ n ∧ n ≤ 255)), decide_eq_false (by omega : ¬ (0 ≤ n ∧ n < 128)), decide_eq_false (by omega : ¬ (32 ≤ n ∧ n ≤ 126)), decide_eq_false (by omega : ¬ (0 ≤ n ∧ n ≤ 65535))]
      simp
    have HM := Lib.hid hm
    have q : decide (n < 0) = true := decide_eq_true h1
    clear hm
    go_enter Tryz.func271, Tryz.ntmps271
    go_wp2_with fail
    go_ret
    exact ⟨by rw [HM.out]; rfl, rfl⟩
  have q1 : decide (n < 0) = false := decide_eq_false h1
  by_cases h2 : (1114111 : Int) < n
  · have hm : mayS k n = false := by
      unfold mayS
      rw [decide_eq_false (by omega : ¬ (0 ≤ n ∧ n ≤ 1114111)), decide_eq_false (by omega : ¬ (0 ≤ n ∧ n < 256)), decide_eq_false (by omega : ¬ (0 ≤ n ∧ n ≤ 255)), decide_eq_false (by omega : ¬ (0 ≤ n ∧ n < 128)), decide_eq_false (by omega : ¬ (32 ≤ n ∧ n ≤ 126)), decide_eq_false (by omega : ¬ (0 ≤ n ∧ n ≤ 65535))]
      simp
    have HM := Lib.hid hm
    have q : decide ((1114111 : Int) < n) = true := decide_eq_true h2
    clear hm
    go_enter Tryz.func271, Tryz.ntmps271
    go_wp2_with fail
    go_ret
    exact ⟨by rw [HM.out]; rfl, rfl⟩
  have q2 : decide ((1114111 : Int) < n) = false := decide_eq_false h2
  by_cases h3 : 55296 ≤ n ∧ n ≤ 57343
  · have hm : mayS k n = false := by
      unfold mayS surr
      rw [decide_eq_true h3, decide_eq_false (by omega : ¬ (0 ≤ n ∧ n < 256)), decide_eq_false (by omega : ¬ (0 ≤ n ∧ n ≤ 255)), decide_eq_false (by omega : ¬ (0 ≤ n ∧ n < 128)), decide_eq_false (by omega : ¬ (32 ≤ n ∧ n ≤ 126))]
      simp
    have HM := Lib.hid hm
    have q3 : decide ((55296 : Int) ≤ n) = true := decide_eq_true h3.1
    have q4 : decide (n ≤ 57343) = true := decide_eq_true h3.2
    clear hm
    go_enter Tryz.func271, Tryz.ntmps271
    go_wp2_with fail
    go_ret
    exact ⟨by rw [HM.out]; rfl, rfl⟩
  have hs : surr n = false := decide_eq_false h3
  have hN : (decide ((55296 : Int) ≤ n) = false) ∨ (decide ((55296 : Int) ≤ n) = true ∧ decide (n ≤ 57343) = false) := by
    by_cases h : (55296 : Int) ≤ n
    · exact .inr ⟨decide_eq_true h, decide_eq_false (by omega)⟩
    · exact .inl (decide_eq_false h)
  by_cases k12 : k = 12
  · subst k12
    have hm : mayS 12 n = true := by
      simp only [mayS, if_true, hs]
      rw [decide_eq_true (by omega)]
      rfl
    have HM := Lib.hid hm
    clear hm hs
    rcases hN with q3 | ⟨q3, q4⟩
    all_goals
      go_enter Tryz.func271, Tryz.ntmps271
      go_wp2_with fail
      go_ret
      exact ⟨by rw [HM.out]; rfl, rfl⟩
  have p1 : (k == 12) = false := beq_eq_false_iff_ne.2 k12
  by_cases k19 : k = 19
  · subst k19
    have H := Lib.hid (r06among_any n printL)
    have hm := among_may n
    have HM := Lib.hid hm
    clear hm hs
    rcases hN with q3 | ⟨q3, q4⟩
    all_goals
      go_enter Tryz.func271, Tryz.ntmps271
      go_wp2_with fail
      refine (H.out _ (by decide)).mono ?_
      rintro e w' ⟨rfl, rfl⟩
      go_wp2_with fail
      go_ret
      exact ⟨by rw [← HM.out]; rfl, rfl⟩
  have p2 : (k == 19) = false := beq_eq_false_iff_ne.2 k19
  by_cases k20 : k = 20
  · subst k20
    have hm : mayS 20 n = decide (n < 256) := by
      simp only [mayS, show ¬ ((20 : Int) = 12) from by decide, show ¬ ((20 : Int) = 19) from by decide, if_false, if_true]
      rw [decide_eq_decide]
      omega
    have HM := Lib.hid hm
    clear hm hs
    rcases hN with q3 | ⟨q3, q4⟩
    all_goals
      go_enter Tryz.func271, Tryz.ntmps271
      go_wp2_with fail
      go_ret
      exact ⟨by rw [HM.out]; rfl, rfl⟩
  have p3 : (k == 20) = false := beq_eq_false_iff_ne.2 k20
  by_cases k22 : k = 22
  · subst k22
    have hm : mayS 22 n = decide (n < 128) := by
      simp only [mayS, show ¬ ((22 : Int) = 12) from by decide, show ¬ ((22 : Int) = 19) from by decide, show ¬ ((22 : Int) = 20) from by decide, if_false, if_true]
      rw [decide_eq_decide]
      omega
    have HM := Lib.hid hm
    clear hm hs
    rcases hN with q3 | ⟨q3, q4⟩
    all_goals
      go_enter Tryz.func271, Tryz.ntmps271
      go_wp2_with fail
      go_ret
      exact ⟨by rw [HM.out]; rfl, rfl⟩
  have p4 : (k == 22) = false := beq_eq_false_iff_ne.2 k22
  by_cases k26 : k = 26
  · subst k26
    have hm : mayS 26 n = (decide ((31 : Int) < n) && decide (n < 127)) := by
      simp only [mayS, show ¬ ((26 : Int) = 12) from by decide, show ¬ ((26 : Int) = 19) from by decide, show ¬ ((26 : Int) = 20) from by decide, show ¬ ((26 : Int) = 22) from by decide, if_false, if_true]
      rw [← Bool.decide_and, decide_eq_decide]
      omega
    have HM := Lib.hid hm
    clear hm hs
    by_cases h31 : (31 : Int) < n
    · have p31 : decide ((31 : Int) < n) = true := decide_eq_true h31
      rcases hN with q3 | ⟨q3, q4⟩
      all_goals
        go_enter Tryz.func271, Tryz.ntmps271
        go_wp2_with fail
        go_ret
        exact ⟨by rw [HM.out, p31]; rfl, rfl⟩
    · have p31 : decide ((31 : Int) < n) = false := decide_eq_false h31
      rcases hN with q3 | ⟨q3, q4⟩
      all_goals
        go_enter Tryz.func271, Tryz.ntmps271
        go_wp2_with fail
        go_ret
        exact ⟨by rw [HM.out, p31]; rfl, rfl⟩
  have p5 : (k == 26) = false := beq_eq_false_iff_ne.2 k26
  by_cases k30 : k = 30
  · subst k30
    have hm : mayS 30 n = decide (n < 65536) := by
      simp only [mayS, show ¬ ((30 : Int) = 12) from by decide, show ¬ ((30 : Int) = 19) from by decide, show ¬ ((30 : Int) = 20) from by decide, show ¬ ((30 : Int) = 22) from by decide, show ¬ ((30 : Int) = 26) from by decide, if_false, if_true, hs]
      rw [Bool.not_false, Bool.and_true, decide_eq_decide]
      omega
    have HM := Lib.hid hm
    clear hm hs
    rcases hN with q3 | ⟨q3, q4⟩
    all_goals
      go_enter Tryz.func271, Tryz.ntmps271
      go_wp2_with fail
      go_ret
      exact ⟨by rw [HM.out]; rfl, rfl⟩
  have p6 : (k == 30) = false := beq_eq_false_iff_ne.2 k30
  have hm : mayS k n = false := by
    simp only [mayS, if_neg k12, if_neg k19, if_neg k20, if_neg k22, if_neg k26, if_neg k30]
  have HM := Lib.hid hm
  clear hm hs
  rcases hN with q3 | ⟨q3, q4⟩
  all_goals
    go_enter Tryz.func271, Tryz.ntmps271
    go_wp2_with fail
    go_ret
    exact ⟨by rw [HM.out]; rfl, rfl⟩
end Go.Proofs.YtacekpdjapgfcaaGreatDoor

namespace Go.Q
open Go Go.RowKit
abbrev natInts (ns : List Nat) : List Int := ns.map fun (n : Nat) => (n : Int)
theorem enc4_le (n : Nat) : (enc n).length ≤ 4 := by unfold enc; split; simp; split; simp; split <;> simp
theorem encAll_le : ∀ (l : List Nat), (encAll l).length ≤ 4 * l.length
  | [] => by simp [encAll]
  | n :: l => by
    have := encAll_le l
    have := enc4_le n
    simp only [encAll, List.flatMap_cons, List.length_append, List.length_cons] at *
    omega
theorem encAll_take {ns : List Nat} {j n : Nat} (h : ns[j]? = some n) : encAll (ns.take (j + 1)) = encAll (ns.take j) ++ enc n := by
  unfold encAll
  rw [List.take_add_one, h]
  simp
theorem encAll_take_le (ns : List Nat) (j : Nat) : (encAll (ns.take j)).length ≤ 4 * ns.length := by
  have := encAll_le (ns.take j)
  rw [List.length_take] at this
  omega
end Go.Q
namespace Go.Proofs.YtacekpdjapgfcaaGreatDoor
open Go Go.RowKit Go.Q
theorem add_bytes {w : World} {base n : Nat} {v : Value} {xs : List UInt8} (hown : w.ownsRow base 5 1 v n (Lib.byteCells xs)) (l : List UInt8) (cs : Array Value) (hcs : (Lib.byteCells l).toArray = cs) (k : Nat) (hk : l.length = k) (hsz : n + k ≤ 1099511627776) (hb : base ≤ w.heap.size) :
    ∃ a c w', (Builtin.append_ #[23, 23] 23 #[v, .slice (some ⟨w.heap.size, 0, none⟩) k k]).run Tryz.prog (w.alloc (.cells cs 5)) = .ok (.slice a (n + k) c) w' ∧ w'.ownsRow base 5 1 (.slice a (n + k) c) (n + k) (Lib.byteCells (xs ++ l)) ∧ Fr (fun k => v.ownBlock = some k) w w' := by
  subst hcs hk
  have BX := Blk.new w 5 (Lib.byteCells l).toArray
  have F1 : Fr (fun _ => False) w (w.alloc (.cells (Lib.byteCells l).toArray 5)) := (Fr.refl w).alloc _
  have hsrc : Bytes (w.alloc (.cells (Lib.byteCells l).toArray 5)) (.slice (some ⟨w.heap.size, 0, none⟩) l.length l.length) l := by
    have h := Vals.of_block BX (by unfold maxLen; simp [byteCells_len]; omega)
    simpa [byteCells_len] using h
  obtain ⟨v', w2, hrun, h1, F2, _⟩ := append_bytes (ownsRow_fr hown F1 (fun _ _ h => h)) (some ⟨w.heap.size, 0, none⟩) l.length l.length l hsrc (by omega) (Nat.le_trans hb F1.size)
  obtain ⟨a, m', c, rfl, rfl⟩ := own_shape h1
  exact ⟨a, c, w2, hrun, h1, (F1.mono (T := fun k => v.ownBlock = some k) (fun _ _ h => h.elim)).trans F2⟩
set_option maxRecDepth 20000 in
set_option maxHeartbeats 2000000 in
theorem r06Utf8_any (v : Value) (ns : List Nat) (w : World) (h : Ints w v (natInts ns)) (hn : ∀ n ∈ ns, n < 1114112) (hlim : ns.length ≤ 100000000) :
    Calls Tryz.prog 235 #[v] w fun e w' => ∃ v', e = .returned v' ∧ w'.ownsRow w.heap.size 5 1 v' (encAll ns).length (Lib.byteCells (encAll ns)) ∧ Fr (fun _ => False) w w' := by
  obtain ⟨a, cap, rfl, hc, hm, hx⟩ := h.form
  rw [List.length_map] at hc hx ⊢
  have HX := Lib.hid hx
  have HN := Lib.hid hn
  clear h hx hn hc hm
  go_enter Tryz.func235, Tryz.ntmps235
  go_wp2_with fail
  go_loopg [3, 4] ns.length (fun g b i wr => ∃ (j : Nat) (a6 : Option Addr) (n6 c6 : Nat), g = ns.length - j ∧ j ≤ ns.length ∧ b = .slice a6 n6 c6 ∧ i = .int .i64 j ∧ wr.ownsRow w.heap.size 5 1 (.slice a6 n6 c6) (encAll (ns.take j)).length (Lib.byteCells (encAll (ns.take j))) ∧ Fr (fun _ => False) w wr)
  case atStart => exact ⟨0, none, 0, 0, rfl, Nat.zero_le _, rfl, rfl, ⟨rfl, .inl ⟨rfl, rfl⟩⟩, Fr.refl _⟩
  case round =>
    obtain ⟨j, a6, n6, c6, hg, hj, rfl, rfl, ho6, G6⟩ := hrel
    have HG := Lib.hid hg
    clear hg
    by_cases hjl : j < ns.length
    · obtain ⟨b, o, rfl, hy⟩ := HX.out (by omega)
      obtain ⟨n, hnj⟩ : ∃ n, ns[j]? = some n := ⟨_, List.getElem?_eq_getElem hjl⟩
      have ec := G6.cell (hy j n (by rw [List.getElem?_map, hnj]; rfl)) (fun h => h)
      have hb0 : w.heap.size ≤ wr.heap.size := G6.size
      have hlt := HN.out n (List.mem_of_getElem? hnj)
      have htl := encAll_take_le ns j
      have hvb := (Vals.of_own ho6).2
      have q1 : (0 : Int) ≤ (j : Int) := by omega
      have q2 : (j : Int) < (ns.length : Int) := by omega
      have HT := Lib.hid (encAll_take hnj)
      have HHY := Lib.hid hy
      clear hy hnj
      by_cases n1 : n < 128
      · have r1 : (n : Int) < 128 := by omega
        have hw1 : IntKind.u8.wrap (n : Int) = (n : Int) := by simp [IntKind.wrap, IntKind.signed, IntKind.bits]; omega
        have he : enc n = [UInt8.ofNat n] := by unfold enc; rw [if_pos n1]
        obtain ⟨a7, c7, w7, hr7, ho7, F7⟩ := add_bytes ho6 [UInt8.ofNat n] #[.int .u8 n] (by simp only [Lib.byteCells, List.map_cons, List.map_nil, Go.Q.u8 n (by omega)]) 1 rfl (by omega) hb0
        have G7 := G6.trans' F7 (fun i hi e => absurd hi (by have := hvb i e; omega))
        rw [← he, ← HT.out] at ho7
        have hL := congrArg List.length HT.out
        rw [List.length_append, he] at hL
        have HL := Lib.hid hL
        have HO7 := Lib.hid ho7
        have HG7 := Lib.hid G7
        have HRUN := Lib.hid hr7
        clear ho6 ho7 F7 hvb G6 G7 hr7 hL he htl
        generalize (encAll (ns.take j)).length = L at *
        go_wp2_with (at_builtin; refine wpList_append_run (by rfl) (.tmp 40) (.tmp 43) 23 (by rfl) _ w7 (by exact HRUN.out) ?_)
        go_roundg (ns.length - (j + 1))
        case measure => rw [HG.out]; omega
        case rel => exact ⟨j + 1, a7, L + 1, c7, rfl, by omega, rfl, by go_num, by rw [HL.out]; exact HO7.out, HG7.out⟩
      have r1 : ¬ (n : Int) < 128 := by omega
      by_cases n2 : n < 2048
      · have r2 : (n : Int) < 2048 := by omega
        obtain ⟨y1, hy1⟩ : ∃ y, y = 192 + n / 64 := ⟨_, rfl⟩
        obtain ⟨y2, hy2⟩ : ∃ y, y = 128 + n % 64 := ⟨_, rfl⟩
        have hw1 : IntKind.u8.wrap (192 + (n : Int) / 64) = (y1 : Int) := by rw [hy1]; simp [IntKind.wrap, IntKind.signed, IntKind.bits]; omega
        have hw2 : IntKind.u8.wrap (128 + (n : Int) % 64) = (y2 : Int) := by rw [hy2]; simp [IntKind.wrap, IntKind.signed, IntKind.bits]; omega
        have he : enc n = [UInt8.ofNat y1, UInt8.ofNat y2] := by unfold enc; rw [if_neg n1, if_pos n2, hy1, hy2]
        obtain ⟨a7, c7, w7, hr7, ho7, F7⟩ := add_bytes ho6 [UInt8.ofNat y1, UInt8.ofNat y2] #[.int .u8 y1, .int .u8 y2] (by simp only [Lib.byteCells, List.map_cons, List.map_nil, Go.Q.u8 y1 (by omega), Go.Q.u8 y2 (by omega)]) 2 rfl (by omega) hb0
        have G7 := G6.trans' F7 (fun i hi e => absurd hi (by have := hvb i e; omega))
        rw [← he, ← HT.out] at ho7
        have hL := congrArg List.length HT.out
        rw [List.length_append, he] at hL
        have HL := Lib.hid hL
        have HO7 := Lib.hid ho7
        have HG7 := Lib.hid G7
        have HRUN := Lib.hid hr7
        clear ho6 ho7 F7 hvb G6 G7 hr7 hL he htl hy1 hy2
        generalize (encAll (ns.take j)).length = L at *
        go_wp2_with (at_builtin; refine wpList_append_run (by rfl) (.tmp 48) (.tmp 57) 23 (by rfl) _ w7 (by exact HRUN.out) ?_)
        go_roundg (ns.length - (j + 1))
        case measure => rw [HG.out]; omega
        case rel => exact ⟨j + 1, a7, L + 2, c7, rfl, by omega, rfl, by go_num, by rw [HL.out]; exact HO7.out, HG7.out⟩
      have r2 : ¬ (n : Int) < 2048 := by omega
      by_cases n3 : n < 65536
      · have r3 : (n : Int) < 65536 := by omega
        obtain ⟨y1, hy1⟩ : ∃ y, y = 224 + n / 4096 := ⟨_, rfl⟩
        obtain ⟨y2, hy2⟩ : ∃ y, y = 128 + n / 64 % 64 := ⟨_, rfl⟩
        obtain ⟨y3, hy3⟩ : ∃ y, y = 128 + n % 64 := ⟨_, rfl⟩
        have hw1 : IntKind.u8.wrap (224 + (n : Int) / 4096) = (y1 : Int) := by rw [hy1]; simp [IntKind.wrap, IntKind.signed, IntKind.bits]; omega
        have hw2 : IntKind.u8.wrap (128 + (n : Int) / 64 % 64) = (y2 : Int) := by rw [hy2]; simp [IntKind.wrap, IntKind.signed, IntKind.bits]; omega
        have hw3 : IntKind.u8.wrap (128 + (n : Int) % 64) = (y3 : Int) := by rw [hy3]; simp [IntKind.wrap, IntKind.signed, IntKind.bits]; omega
        have he : enc n = [UInt8.ofNat y1, UInt8.ofNat y2, UInt8.ofNat y3] := by unfold enc; rw [if_neg n1, if_neg n2, if_pos n3, hy1, hy2, hy3]
        obtain ⟨a7, c7, w7, hr7, ho7, F7⟩ := add_bytes ho6 [UInt8.ofNat y1, UInt8.ofNat y2, UInt8.ofNat y3] #[.int .u8 y1, .int .u8 y2, .int .u8 y3] (by simp only [Lib.byteCells, List.map_cons, List.map_nil, Go.Q.u8 y1 (by omega), Go.Q.u8 y2 (by omega), Go.Q.u8 y3 (by omega)]) 3 rfl (by omega) hb0
        have G7 := G6.trans' F7 (fun i hi e => absurd hi (by have := hvb i e; omega))
        rw [← he, ← HT.out] at ho7
        have hL := congrArg List.length HT.out
        rw [List.length_append, he] at hL
        have HL := Lib.hid hL
        have HO7 := Lib.hid ho7
        have HG7 := Lib.hid G7
        have HRUN := Lib.hid hr7
        clear ho6 ho7 F7 hvb G6 G7 hr7 hL he htl hy1 hy2 hy3
        generalize (encAll (ns.take j)).length = L at *
        go_wp2_with (at_builtin; refine wpList_append_run (by rfl) (.tmp 62) (.tmp 76) 23 (by rfl) _ w7 (by exact HRUN.out) ?_)
        go_roundg (ns.length - (j + 1))
        case measure => rw [HG.out]; omega
        case rel => exact ⟨j + 1, a7, L + 3, c7, rfl, by omega, rfl, by go_num, by rw [HL.out]; exact HO7.out, HG7.out⟩
      have r3 : ¬ (n : Int) < 65536 := by omega
      · obtain ⟨y0, hy0⟩ : ∃ y, y = 240 + n / 262144 := ⟨_, rfl⟩
        obtain ⟨y1, hy1⟩ : ∃ y, y = 128 + n / 4096 % 64 := ⟨_, rfl⟩
        obtain ⟨y2, hy2⟩ : ∃ y, y = 128 + n / 64 % 64 := ⟨_, rfl⟩
        obtain ⟨y3, hy3⟩ : ∃ y, y = 128 + n % 64 := ⟨_, rfl⟩
        have hw0 : IntKind.u8.wrap (240 + (n : Int) / 262144) = (y0 : Int) := by rw [hy0]; simp [IntKind.wrap, IntKind.signed, IntKind.bits]; omega
        have hw1 : IntKind.u8.wrap (128 + (n : Int) / 4096 % 64) = (y1 : Int) := by rw [hy1]; simp [IntKind.wrap, IntKind.signed, IntKind.bits]; omega
        have hw2 : IntKind.u8.wrap (128 + (n : Int) / 64 % 64) = (y2 : Int) := by rw [hy2]; simp [IntKind.wrap, IntKind.signed, IntKind.bits]; omega
        have hw3 : IntKind.u8.wrap (128 + (n : Int) % 64) = (y3 : Int) := by rw [hy3]; simp [IntKind.wrap, IntKind.signed, IntKind.bits]; omega
        have he : enc n = [UInt8.ofNat y0, UInt8.ofNat y1, UInt8.ofNat y2, UInt8.ofNat y3] := by unfold enc; rw [if_neg n1, if_neg n2, if_neg n3, hy0, hy1, hy2, hy3]
        obtain ⟨a7, c7, w7, hr7, ho7, F7⟩ := add_bytes ho6 [UInt8.ofNat y0, UInt8.ofNat y1, UInt8.ofNat y2, UInt8.ofNat y3] #[.int .u8 y0, .int .u8 y1, .int .u8 y2, .int .u8 y3] (by simp only [Lib.byteCells, List.map_cons, List.map_nil, Go.Q.u8 y0 (by omega), Go.Q.u8 y1 (by omega), Go.Q.u8 y2 (by omega), Go.Q.u8 y3 (by omega)]) 4 rfl (by omega) hb0
        have G7 := G6.trans' F7 (fun i hi e => absurd hi (by have := hvb i e; omega))
        rw [← he, ← HT.out] at ho7
        have hL := congrArg List.length HT.out
        rw [List.length_append, he] at hL
        have HL := Lib.hid hL
        have HO7 := Lib.hid ho7
        have HG7 := Lib.hid G7
        have HRUN := Lib.hid hr7
        clear ho6 ho7 F7 hvb G6 G7 hr7 hL he htl hy0 hy1 hy2 hy3
        generalize (encAll (ns.take j)).length = L at *
        go_wp2_with (at_builtin; refine wpList_append_run (by rfl) (.tmp 16) (.tmp 35) 23 (by rfl) _ w7 (by exact HRUN.out) ?_)
        go_roundg (ns.length - (j + 1))
        case measure => rw [HG.out]; omega
        case rel => exact ⟨j + 1, a7, L + 4, c7, rfl, by omega, rfl, by go_num, by rw [HL.out]; exact HO7.out, HG7.out⟩
    · have hj' : encAll (ns.take j) = encAll ns := by rw [List.take_of_length_le (by omega)]
      rw [hj'] at ho6
      have HO6 := Lib.hid ho6
      have HG6 := Lib.hid G6
      have q2 : ¬ (j : Int) < (ns.length : Int) := by omega
      clear ho6 G6 hj'
      go_wp2_with fail
      go_ret
      exact ⟨_, rfl, HO6.out, HG6.out⟩
end Go.Proofs.YtacekpdjapgfcaaGreatDoor

namespace Go.Q
open Go Go.RowKit
def looseHead (c : Nat) : Nat × Nat := if 240 ≤ c then (c - 240, 3) else if 224 ≤ c then (c - 224, 2) else if 192 ≤ c then (c - 192, 1) else (c, 0)
def looseAcc (n0 : Nat) (l : List UInt8) : Nat := l.foldl (fun n y => 64 * n + y.toNat % 64) n0
def looseS : Nat → List UInt8 → Option (List Nat)
  | _, [] => some []
  | 0, _ :: _ => none
  | f + 1, x :: t => if 1114111 < looseAcc (looseHead x.toNat).1 (t.take (looseHead x.toNat).2) then none else (looseS f (t.drop (looseHead x.toNat).2)).map (looseAcc (looseHead x.toNat).1 (t.take (looseHead x.toNat).2) :: ·)
theorem loose_fuel : ∀ (f g : Nat) (l : List UInt8), l.length ≤ f → l.length ≤ g → looseS f l = looseS g l
  | f, g, [], _, _ => by cases f <;> cases g <;> rfl
  | 0, _, _ :: _, h, _ => by simp at h
  | _ + 1, 0, _ :: _, _, h => by simp at h
  | f + 1, g + 1, x :: t, hf, hg => by
    simp only [List.length_cons] at hf hg
    simp only [looseS]
    rw [loose_fuel f g (t.drop (looseHead x.toNat).2) (by rw [List.length_drop]; omega) (by rw [List.length_drop]; omega)]
def looseL (l : List UInt8) : Option (List Nat) := looseS l.length l
theorem looseL_nil : looseL [] = some [] := rfl
theorem looseL_cons {x : UInt8} {t : List UInt8} {n0 more : Nat} (h : looseHead x.toNat = (n0, more)) : looseL (x :: t) = if 1114111 < looseAcc n0 (t.take more) then none else (looseL (t.drop more)).map (looseAcc n0 (t.take more) :: ·) := by
  simp only [looseL, List.length_cons, looseS, h]
  rw [loose_fuel t.length (t.drop more).length (t.drop more) (by rw [List.length_drop]; omega) (Nat.le_refl _)]
theorem acc_lt : ∀ (l : List UInt8) (n0 : Nat), looseAcc n0 l < (n0 + 1) * 64 ^ l.length
  | [], n0 => by simp [looseAcc]
  | y :: t, n0 => by
    have := acc_lt t (64 * n0 + y.toNat % 64)
    have h2 : (64 * n0 + y.toNat % 64 + 1) ≤ (n0 + 1) * 64 := by omega
    have h3 := Nat.mul_le_mul_right (64 ^ t.length) h2
    rw [Nat.mul_assoc] at h3
    have h4 : 64 * 64 ^ t.length = 64 ^ (y :: t).length := by rw [List.length_cons, Nat.pow_succ, Nat.mul_comm]
    rw [h4] at h3
    exact Nat.lt_of_lt_of_le this h3
theorem acc_take {n0 k : Nat} {t : List UInt8} {y : UInt8} (h : t[k]? = some y) : looseAcc n0 (t.take (k + 1)) = 64 * looseAcc n0 (t.take k) + y.toNat % 64 := by
  unfold looseAcc
  rw [List.take_add_one, h]
  simp [List.foldl_append]
theorem acc_small {c n0 more : Nat} (h : looseHead c = (n0, more)) (hc : c < 256) (t : List UInt8) (k : Nat) (hk : k ≤ more) : looseAcc n0 (t.take k) < 8388608 ∧ more ≤ 3 := by
  have h1 := acc_lt (t.take k) n0
  have h2 : (t.take k).length ≤ k := by rw [List.length_take]; omega
  have h3 : (64 : Nat) ^ (t.take k).length ≤ 64 ^ k := Nat.pow_le_pow_right (by decide) h2
  have h4 := Nat.mul_le_mul_left (n0 + 1) h3
  have hm : (n0 < 32 ∧ more ≤ 3) ∨ (n0 < 192 ∧ more = 0) := by
    unfold looseHead at h
    split at h
    · simp only [Prod.mk.injEq] at h; omega
    split at h
    · simp only [Prod.mk.injEq] at h; omega
    split at h
    · simp only [Prod.mk.injEq] at h; omega
    · simp only [Prod.mk.injEq] at h; omega
  rcases hm with ⟨a, b⟩ | ⟨a, rfl⟩
  · have h5 : (64 : Nat) ^ k ≤ 64 ^ 3 := Nat.pow_le_pow_right (by decide) (by omega)
    have h6 := Nat.mul_le_mul (show n0 + 1 ≤ 32 from by omega) h5
    exact ⟨by omega, b⟩
  · obtain rfl : k = 0 := by omega
    simp only [Nat.pow_zero, Nat.mul_one] at h4
    exact ⟨by omega, by omega⟩
def wideR (b : List UInt8) : Option (List Nat) :=
  match looseL b with
  | none => none
  | some ns => if (natInts ns).all (mayS 12) = true ∧ encAll ns = b then some ns else none
theorem wideR_none {b : List UInt8} (h : looseL b = none) : wideR b = none := by unfold wideR; rw [h]
theorem wideR_some {b : List UInt8} {ns : List Nat} (h : looseL b = some ns) : wideR b = if (natInts ns).all (mayS 12) = true ∧ encAll ns = b then some ns else none := by unfold wideR; rw [h]
theorem wideR_ok {b : List UInt8} {ns : List Nat} (h : wideR b = some ns) : encAll ns = b ∧ (natInts ns).all (mayS 12) = true ∧ signsS 12 b = natInts ns ∧ rightS 12 b = true := by
  unfold wideR at h
  split at h
  · cases h
  · split at h
    · rename_i hh
      obtain ⟨ha, hb⟩ := hh
      simp only [Option.some.injEq] at h
      rw [h] at ha hb
      have hs : signsS 12 b = natInts ns := by
        have := signs_of (k := 12) (l := natInts ns) (by decide) (fun n hn => List.all_eq_true.1 ha n hn)
        rw [← this]
        congr 1
        rw [← hb]
        simp only [ofS, encAll, natInts, List.flatMap_map]
        rfl
      refine ⟨hb, ha, hs, ?_⟩
      unfold rightS
      rw [hs, ha]
      rfl
    · cases h
end Go.Q

namespace Go.Proofs.YtacekpdjapgfcaaGreatDoor
open Go Go.RowKit Go.Q
def WideOut (w w' : World) (b : List UInt8) (e : Ending) : Prop :=
  ∃ v, e = .returned (.tuple #[v, .bool (wideR b).isSome]) ∧ Ints w' v (natInts ((wideR b).getD [])) ∧ Fr (fun _ => False) w w'
theorem wideOut_no {w w' : World} {b : List UInt8} (h : wideR b = none) (F : Fr (fun _ => False) w w') : WideOut w w' b (.returned (.tuple #[.slice none 0 0, .bool false])) := by
  refine ⟨_, by rw [h]; rfl, ?_, F⟩
  rw [h]
  exact ⟨none, 0, rfl, Nat.zero_le _, by unfold maxLen; omega, fun h => absurd h (by decide)⟩
theorem le_snoc {xs : List Nat} {A : Nat} (h : ∀ x ∈ xs, x ≤ 1114111) (hA : ¬ 1114111 < A) : ∀ x ∈ xs ++ [A], x ≤ 1114111 := by
  intro x hx
  rcases List.mem_append.1 hx with h' | h'
  · exact h x h'
  · rw [List.mem_singleton.1 h']
    omega
set_option maxRecDepth 20000 in
set_option maxHeartbeats 8000000 in
theorem r06wide_any (v : Value) (b : List UInt8) (w : World) (h : Bytes w v b) (hlim : b.length ≤ 16777216) :
    Calls Tryz.prog 270 #[v] w fun e w' => WideOut w w' b e := by
  obtain ⟨a, cap, rfl, -, -, hx⟩ := h.form
  have HB := Lib.hid h
  have HX := Lib.hid hx
  clear h hx
  go_enter Tryz.func270, Tryz.ntmps270
  go_wp2_with fail
  go_loopg [4, 5] (b.length + 4) (fun g l i wr => ∃ (xs : List Nat) (j : Nat) (a6 : Option Addr) (n6 c6 : Nat), g = b.length + 4 - j ∧ j ≤ b.length + 3 ∧ l = .slice a6 n6 c6 ∧ i = .int .i64 j ∧ wr.ownsRow w.heap.size 3 1 (.slice a6 n6 c6) xs.length (intCells (natInts xs)) ∧ looseL b = (looseL (b.drop j)).map (xs ++ ·) ∧ (∀ x ∈ xs, x ≤ 1114111) ∧ xs.length ≤ j ∧ Fr (fun _ => False) w wr)
  case atStart => exact ⟨[], 0, none, 0, 0, rfl, Nat.zero_le _, rfl, rfl, ⟨rfl, .inl ⟨rfl, rfl⟩⟩, by simp, by simp, Nat.zero_le _, Fr.refl _⟩
  case round =>
    obtain ⟨xs, j, a6, n6, c6, hg, hj, rfl, rfl, ho6, hL, hxs, hxl, G6⟩ := hrel
    have HG := Lib.hid hg
    have HL := Lib.hid hL
    have HXS := Lib.hid hxs
    have HO6 := Lib.hid ho6
    have HG6 := Lib.hid G6
    clear hg hL hxs ho6 G6
    by_cases hjl : j < b.length
    · obtain ⟨bb, oo, rfl, hy⟩ := HX.out (by omega)
      obtain ⟨x, hxj⟩ : ∃ x, b[j]? = some x := ⟨_, List.getElem?_eq_getElem hjl⟩
      have hd : b.drop j = x :: b.drop (j + 1) := by
        obtain ⟨h, rfl⟩ := List.getElem?_eq_some_iff.1 hxj
        exact List.drop_eq_getElem_cons h
      have ec := HG6.out.cell (hy j x hxj) (fun h => h)
      have HY := Lib.hid hy
      have q1 : (0 : Int) ≤ (j : Int) := by omega
      have q2 : (j : Int) < (b.length : Int) := by omega
      obtain ⟨⟨n0, more⟩, hh⟩ : ∃ p, looseHead x.toNat = p := ⟨_, rfl⟩
      have hLc := looseL_cons (t := b.drop (j + 1)) hh
      have hxlt := x.toNat_lt
      have hsm := fun k hk => acc_small hh hxlt (b.drop (j + 1)) k hk
      obtain ⟨c, hc⟩ : ∃ c, c = x.toNat := ⟨_, rfl⟩
      rw [← hc] at hxlt hh ec
      have hcw : wrap64 (c : Int) = (c : Int) := by unfold wrap64; omega
      have HD := Lib.hid hd
      have HLC := Lib.hid hLc
      have HSM := Lib.hid hsm
      have hcases : ((240 ≤ c ∧ (c : Int) - 240 = (n0 : Int) ∧ more = 3) ∨ (¬ 240 ≤ c ∧ 224 ≤ c ∧ (c : Int) - 224 = (n0 : Int) ∧ more = 2) ∨ (¬ 240 ≤ c ∧ ¬ 224 ≤ c ∧ 192 ≤ c ∧ (c : Int) - 192 = (n0 : Int) ∧ more = 1) ∨ (¬ 240 ≤ c ∧ ¬ 224 ≤ c ∧ ¬ 192 ≤ c ∧ (c : Int) = (n0 : Int) ∧ more = 0)) := by
        unfold looseHead at hh
        split at hh
        · simp only [Prod.mk.injEq] at hh; omega
        split at hh
        · simp only [Prod.mk.injEq] at hh; omega
        split at hh
        · simp only [Prod.mk.injEq] at hh; omega
        · simp only [Prod.mk.injEq] at hh; omega
      clear hy hxj hd hLc hsm hc hh
      have hn0 : n0 < 256 := by omega
      rcases hcases with ⟨d1, d4, rfl⟩ | ⟨d1, d2, d4, rfl⟩ | ⟨d1, d2, d3, d4, rfl⟩ | ⟨d1, d2, d3, d4, rfl⟩
      · have p1 : (240 : Int) ≤ (c : Int) := by omega
        go_wp2_with fail
        obtain ⟨wo, hwo⟩ : ∃ wo : World, wo = wr := ⟨_, rfl⟩
        obtain rfl := hwo
        go_loopg [7, 9] (3 + 1) (fun g n k wi => ∃ k1 : Nat, g = 3 + 2 - k1 ∧ 0 < k1 ∧ k1 ≤ 3 + 1 ∧ n = .int .i64 (looseAcc n0 ((b.drop (j + 1)).take (k1 - 1))) ∧ k = .int .i64 k1 ∧ wi = wo)
        case atStart => exact ⟨1, rfl, by omega, by omega, rfl, rfl, rfl⟩
        case round =>
          obtain ⟨k1, hg, hk0, hk, rfl, rfl, rfl⟩ := hrel
          have HG2 := Lib.hid hg
          clear hg
          have hA : looseAcc n0 ((b.drop (j + 1)).take (k1 - 1)) < 8388608 := (HSM.out (k1 - 1) (by omega)).1
          by_cases hst : k1 ≤ 3 ∧ j + k1 < b.length
          · obtain ⟨hs1, hs2⟩ := hst
            obtain ⟨y, hyj⟩ : ∃ y, b[j + k1]? = some y := ⟨_, List.getElem?_eq_getElem hs2⟩
            have ey := HG6.out.cell (HY.out (j + k1) y hyj) (fun h => h)
            have hty : (b.drop (j + 1))[k1 - 1]? = some y := by rw [List.getElem?_drop, show j + 1 + (k1 - 1) = j + k1 from by omega]; exact hyj
            have hT := acc_take (n0 := n0) hty
            rw [show k1 - 1 + 1 = k1 from by omega] at hT
            have hylt := y.toNat_lt
            have hyw : wrap64 (y.toNat : Int) = (y.toNat : Int) := by unfold wrap64; omega
            generalize y.toNat = yy at *
            generalize looseAcc n0 ((b.drop (j + 1)).take (k1 - 1)) = A at *
            have HT := Lib.hid hT
            have r1 : (k1 : Int) ≤ 3 := by omega
            have r2 : (j : Int) + (k1 : Int) < (b.length : Int) := by omega
            have r3 : (0 : Int) ≤ (j : Int) + (k1 : Int) := by omega
            clear hyj hty hT
            go_wp2_with fail
            go_roundg (3 + 2 - (k1 + 1))
            case measure => rw [HG2.out]; omega
            case rel => exact ⟨k1 + 1, rfl, by omega, by omega, by rw [Nat.add_sub_cancel, HT.out]; go_num, by go_num, rfl⟩
          · have hAM : looseAcc n0 ((b.drop (j + 1)).take (k1 - 1)) = looseAcc n0 ((b.drop (j + 1)).take 3) := by
              by_cases hk1 : k1 ≤ 3
              · have hlen : (b.drop (j + 1)).length ≤ k1 - 1 := by rw [List.length_drop]; omega
                rw [List.take_of_length_le hlen, List.take_of_length_le (by omega)]
              · rw [show k1 - 1 = 3 from by omega]
            have hout : ((k1 : Int) ≤ 3 ∧ ¬ (j : Int) + (k1 : Int) < (b.length : Int)) ∨ ¬ (k1 : Int) ≤ 3 := by omega
            have hLC := HLC.out
            rw [hAM] at *
            generalize looseAcc n0 ((b.drop (j + 1)).take 3) = A at *
            have HLC2 := Lib.hid hLC
            clear hAM hLC HLC HSM
            by_cases hbig : 1114111 < A
            · have r4 : (1114111 : Int) < (A : Int) := by omega
              have hnone : wideR b = none := wideR_none (by rw [HL.out, HD.out, HLC2.out, if_pos hbig]; rfl)
              have HNO := Lib.hid hnone
              clear hnone
              rcases hout with ⟨r1, r2⟩ | r1
              all_goals
                go_wp2_with fail
                exact bodyPost_ret (v := .tuple #[.slice none 0 0, .bool false]) (by simp [results, Tryz.results270, go_sem]) rfl (wideOut_no HNO.out HG6.out)
            · have r4 : ¬ (1114111 : Int) < (A : Int) := by omega
              have hb0 : w.heap.size ≤ wr.heap.size := HG6.out.size
              have hvb := (Vals.of_own HO6.out).2
              obtain ⟨a7, c7, w7, hr7, ho7, F7, -⟩ := add_int HO6.out hb0 (by omega) (A : Int) wr.heap.size ((Fr.refl (S := fun _ => False) wr).alloc (.cells #[.int .i64 (A : Int)] 3)) (Blk.new wr 3 #[.int .i64 (A : Int)])
              have G7 := HG6.out.trans' F7 (fun i hi e => absurd hi (by have := hvb i e; omega))
              have HO7 := Lib.hid ho7
              have HG7 := Lib.hid G7
              have HRUN := Lib.hid hr7
              have hl2 : looseL b = (looseL (b.drop (j + 3 + 1))).map ((xs ++ [A]) ++ ·) := by
                rw [HL.out, HD.out, HLC2.out, if_neg hbig, List.drop_drop, Option.map_map, show j + 1 + 3 = j + 3 + 1 from by omega]
                congr 1
                funext l
                simp
              have HL2 := Lib.hid hl2
              have HBIG := Lib.hid hbig
              clear ho7 G7 hr7 hl2 F7 hvb hbig
              rcases hout with ⟨r1, r2⟩ | r1
              all_goals
                go_wp2_with (at_builtin; refine wpList_append_run (by rfl) (.tmp 59) (.tmp 61) 105 (by rfl) _ w7 (by exact HRUN.out) ?_)
                go_roundg (b.length + 4 - (j + 3 + 1))
                case measure => rw [HG.out]; omega
                case rel => exact ⟨xs ++ [A], j + 3 + 1, a7, xs.length + 1, c7, rfl, by omega, rfl, by go_num, (by have := HO7.out; rw [List.length_append, List.length_singleton]; simpa [natInts] using this), HL2.out, le_snoc HXS.out HBIG.out, (by rw [List.length_append, List.length_singleton]; omega), HG7.out⟩
      · have p1 : ¬ (240 : Int) ≤ (c : Int) := by omega
        have p2 : (224 : Int) ≤ (c : Int) := by omega
        go_wp2_with fail
        obtain ⟨wo, hwo⟩ : ∃ wo : World, wo = wr := ⟨_, rfl⟩
        obtain rfl := hwo
        go_loopg [7, 9] (2 + 1) (fun g n k wi => ∃ k1 : Nat, g = 2 + 2 - k1 ∧ 0 < k1 ∧ k1 ≤ 2 + 1 ∧ n = .int .i64 (looseAcc n0 ((b.drop (j + 1)).take (k1 - 1))) ∧ k = .int .i64 k1 ∧ wi = wo)
        case atStart => exact ⟨1, rfl, by omega, by omega, rfl, rfl, rfl⟩
        case round =>
          obtain ⟨k1, hg, hk0, hk, rfl, rfl, rfl⟩ := hrel
          have HG2 := Lib.hid hg
          clear hg
          have hA : looseAcc n0 ((b.drop (j + 1)).take (k1 - 1)) < 8388608 := (HSM.out (k1 - 1) (by omega)).1
          by_cases hst : k1 ≤ 2 ∧ j + k1 < b.length
          · obtain ⟨hs1, hs2⟩ := hst
            obtain ⟨y, hyj⟩ : ∃ y, b[j + k1]? = some y := ⟨_, List.getElem?_eq_getElem hs2⟩
            have ey := HG6.out.cell (HY.out (j + k1) y hyj) (fun h => h)
            have hty : (b.drop (j + 1))[k1 - 1]? = some y := by rw [List.getElem?_drop, show j + 1 + (k1 - 1) = j + k1 from by omega]; exact hyj
            have hT := acc_take (n0 := n0) hty
            rw [show k1 - 1 + 1 = k1 from by omega] at hT
            have hylt := y.toNat_lt
            have hyw : wrap64 (y.toNat : Int) = (y.toNat : Int) := by unfold wrap64; omega
            generalize y.toNat = yy at *
            generalize looseAcc n0 ((b.drop (j + 1)).take (k1 - 1)) = A at *
            have HT := Lib.hid hT
            have r1 : (k1 : Int) ≤ 2 := by omega
            have r2 : (j : Int) + (k1 : Int) < (b.length : Int) := by omega
            have r3 : (0 : Int) ≤ (j : Int) + (k1 : Int) := by omega
            clear hyj hty hT
            go_wp2_with fail
            go_roundg (2 + 2 - (k1 + 1))
            case measure => rw [HG2.out]; omega
            case rel => exact ⟨k1 + 1, rfl, by omega, by omega, by rw [Nat.add_sub_cancel, HT.out]; go_num, by go_num, rfl⟩
          · have hAM : looseAcc n0 ((b.drop (j + 1)).take (k1 - 1)) = looseAcc n0 ((b.drop (j + 1)).take 2) := by
              by_cases hk1 : k1 ≤ 2
              · have hlen : (b.drop (j + 1)).length ≤ k1 - 1 := by rw [List.length_drop]; omega
                rw [List.take_of_length_le hlen, List.take_of_length_le (by omega)]
              · rw [show k1 - 1 = 2 from by omega]
            have hout : ((k1 : Int) ≤ 2 ∧ ¬ (j : Int) + (k1 : Int) < (b.length : Int)) ∨ ¬ (k1 : Int) ≤ 2 := by omega
            have hLC := HLC.out
            rw [hAM] at *
            generalize looseAcc n0 ((b.drop (j + 1)).take 2) = A at *
            have HLC2 := Lib.hid hLC
            clear hAM hLC HLC HSM
            by_cases hbig : 1114111 < A
            · have r4 : (1114111 : Int) < (A : Int) := by omega
              have hnone : wideR b = none := wideR_none (by rw [HL.out, HD.out, HLC2.out, if_pos hbig]; rfl)
              have HNO := Lib.hid hnone
              clear hnone
              rcases hout with ⟨r1, r2⟩ | r1
              all_goals
                go_wp2_with fail
                exact bodyPost_ret (v := .tuple #[.slice none 0 0, .bool false]) (by simp [results, Tryz.results270, go_sem]) rfl (wideOut_no HNO.out HG6.out)
            · have r4 : ¬ (1114111 : Int) < (A : Int) := by omega
              have hb0 : w.heap.size ≤ wr.heap.size := HG6.out.size
              have hvb := (Vals.of_own HO6.out).2
              obtain ⟨a7, c7, w7, hr7, ho7, F7, -⟩ := add_int HO6.out hb0 (by omega) (A : Int) wr.heap.size ((Fr.refl (S := fun _ => False) wr).alloc (.cells #[.int .i64 (A : Int)] 3)) (Blk.new wr 3 #[.int .i64 (A : Int)])
              have G7 := HG6.out.trans' F7 (fun i hi e => absurd hi (by have := hvb i e; omega))
              have HO7 := Lib.hid ho7
              have HG7 := Lib.hid G7
              have HRUN := Lib.hid hr7
              have hl2 : looseL b = (looseL (b.drop (j + 2 + 1))).map ((xs ++ [A]) ++ ·) := by
                rw [HL.out, HD.out, HLC2.out, if_neg hbig, List.drop_drop, Option.map_map, show j + 1 + 2 = j + 2 + 1 from by omega]
                congr 1
                funext l
                simp
              have HL2 := Lib.hid hl2
              have HBIG := Lib.hid hbig
              clear ho7 G7 hr7 hl2 F7 hvb hbig
              rcases hout with ⟨r1, r2⟩ | r1
              all_goals
                go_wp2_with (at_builtin; refine wpList_append_run (by rfl) (.tmp 59) (.tmp 61) 105 (by rfl) _ w7 (by exact HRUN.out) ?_)
                go_roundg (b.length + 4 - (j + 2 + 1))
                case measure => rw [HG.out]; omega
                case rel => exact ⟨xs ++ [A], j + 2 + 1, a7, xs.length + 1, c7, rfl, by omega, rfl, by go_num, (by have := HO7.out; rw [List.length_append, List.length_singleton]; simpa [natInts] using this), HL2.out, le_snoc HXS.out HBIG.out, (by rw [List.length_append, List.length_singleton]; omega), HG7.out⟩
      · have p1 : ¬ (240 : Int) ≤ (c : Int) := by omega
        have p2 : ¬ (224 : Int) ≤ (c : Int) := by omega
        have p3 : (192 : Int) ≤ (c : Int) := by omega
        go_wp2_with fail
        obtain ⟨wo, hwo⟩ : ∃ wo : World, wo = wr := ⟨_, rfl⟩
        obtain rfl := hwo
        go_loopg [7, 9] (1 + 1) (fun g n k wi => ∃ k1 : Nat, g = 1 + 2 - k1 ∧ 0 < k1 ∧ k1 ≤ 1 + 1 ∧ n = .int .i64 (looseAcc n0 ((b.drop (j + 1)).take (k1 - 1))) ∧ k = .int .i64 k1 ∧ wi = wo)
        case atStart => exact ⟨1, rfl, by omega, by omega, rfl, rfl, rfl⟩
        case round =>
          obtain ⟨k1, hg, hk0, hk, rfl, rfl, rfl⟩ := hrel
          have HG2 := Lib.hid hg
          clear hg
          have hA : looseAcc n0 ((b.drop (j + 1)).take (k1 - 1)) < 8388608 := (HSM.out (k1 - 1) (by omega)).1
          by_cases hst : k1 ≤ 1 ∧ j + k1 < b.length
          · obtain ⟨hs1, hs2⟩ := hst
            obtain ⟨y, hyj⟩ : ∃ y, b[j + k1]? = some y := ⟨_, List.getElem?_eq_getElem hs2⟩
            have ey := HG6.out.cell (HY.out (j + k1) y hyj) (fun h => h)
            have hty : (b.drop (j + 1))[k1 - 1]? = some y := by rw [List.getElem?_drop, show j + 1 + (k1 - 1) = j + k1 from by omega]; exact hyj
            have hT := acc_take (n0 := n0) hty
            rw [show k1 - 1 + 1 = k1 from by omega] at hT
            have hylt := y.toNat_lt
            have hyw : wrap64 (y.toNat : Int) = (y.toNat : Int) := by unfold wrap64; omega
            generalize y.toNat = yy at *
            generalize looseAcc n0 ((b.drop (j + 1)).take (k1 - 1)) = A at *
            have HT := Lib.hid hT
            have r1 : (k1 : Int) ≤ 1 := by omega
            have r2 : (j : Int) + (k1 : Int) < (b.length : Int) := by omega
            have r3 : (0 : Int) ≤ (j : Int) + (k1 : Int) := by omega
            clear hyj hty hT
            go_wp2_with fail
            go_roundg (1 + 2 - (k1 + 1))
            case measure => rw [HG2.out]; omega
            case rel => exact ⟨k1 + 1, rfl, by omega, by omega, by rw [Nat.add_sub_cancel, HT.out]; go_num, by go_num, rfl⟩
          · have hAM : looseAcc n0 ((b.drop (j + 1)).take (k1 - 1)) = looseAcc n0 ((b.drop (j + 1)).take 1) := by
              by_cases hk1 : k1 ≤ 1
              · have hlen : (b.drop (j + 1)).length ≤ k1 - 1 := by rw [List.length_drop]; omega
                rw [List.take_of_length_le hlen, List.take_of_length_le (by omega)]
              · rw [show k1 - 1 = 1 from by omega]
            have hout : ((k1 : Int) ≤ 1 ∧ ¬ (j : Int) + (k1 : Int) < (b.length : Int)) ∨ ¬ (k1 : Int) ≤ 1 := by omega
            have hLC := HLC.out
            rw [hAM] at *
            generalize looseAcc n0 ((b.drop (j + 1)).take 1) = A at *
            have HLC2 := Lib.hid hLC
            clear hAM hLC HLC HSM
            by_cases hbig : 1114111 < A
            · have r4 : (1114111 : Int) < (A : Int) := by omega
              have hnone : wideR b = none := wideR_none (by rw [HL.out, HD.out, HLC2.out, if_pos hbig]; rfl)
              have HNO := Lib.hid hnone
              clear hnone
              rcases hout with ⟨r1, r2⟩ | r1
              all_goals
                go_wp2_with fail
                exact bodyPost_ret (v := .tuple #[.slice none 0 0, .bool false]) (by simp [results, Tryz.results270, go_sem]) rfl (wideOut_no HNO.out HG6.out)
            · have r4 : ¬ (1114111 : Int) < (A : Int) := by omega
              have hb0 : w.heap.size ≤ wr.heap.size := HG6.out.size
              have hvb := (Vals.of_own HO6.out).2
              obtain ⟨a7, c7, w7, hr7, ho7, F7, -⟩ := add_int HO6.out hb0 (by omega) (A : Int) wr.heap.size ((Fr.refl (S := fun _ => False) wr).alloc (.cells #[.int .i64 (A : Int)] 3)) (Blk.new wr 3 #[.int .i64 (A : Int)])
              have G7 := HG6.out.trans' F7 (fun i hi e => absurd hi (by have := hvb i e; omega))
              have HO7 := Lib.hid ho7
              have HG7 := Lib.hid G7
              have HRUN := Lib.hid hr7
              have hl2 : looseL b = (looseL (b.drop (j + 1 + 1))).map ((xs ++ [A]) ++ ·) := by
                rw [HL.out, HD.out, HLC2.out, if_neg hbig, List.drop_drop, Option.map_map, show j + 1 + 1 = j + 1 + 1 from by omega]
                congr 1
                funext l
                simp
              have HL2 := Lib.hid hl2
              have HBIG := Lib.hid hbig
              clear ho7 G7 hr7 hl2 F7 hvb hbig
              rcases hout with ⟨r1, r2⟩ | r1
              all_goals
                go_wp2_with (at_builtin; refine wpList_append_run (by rfl) (.tmp 59) (.tmp 61) 105 (by rfl) _ w7 (by exact HRUN.out) ?_)
                go_roundg (b.length + 4 - (j + 1 + 1))
                case measure => rw [HG.out]; omega
                case rel => exact ⟨xs ++ [A], j + 1 + 1, a7, xs.length + 1, c7, rfl, by omega, rfl, by go_num, (by have := HO7.out; rw [List.length_append, List.length_singleton]; simpa [natInts] using this), HL2.out, le_snoc HXS.out HBIG.out, (by rw [List.length_append, List.length_singleton]; omega), HG7.out⟩
      · have p1 : ¬ (240 : Int) ≤ (c : Int) := by omega
        have p2 : ¬ (224 : Int) ≤ (c : Int) := by omega
        have p3 : ¬ (192 : Int) ≤ (c : Int) := by omega
        obtain rfl : c = n0 := by omega
        clear d4
        go_wp2_with fail
        obtain ⟨wo, hwo⟩ : ∃ wo : World, wo = wr := ⟨_, rfl⟩
        obtain rfl := hwo
        go_loopg [7, 9] (0 + 1) (fun g n k wi => ∃ k1 : Nat, g = 0 + 2 - k1 ∧ 0 < k1 ∧ k1 ≤ 0 + 1 ∧ n = .int .i64 (looseAcc c ((b.drop (j + 1)).take (k1 - 1))) ∧ k = .int .i64 k1 ∧ wi = wo)
        case atStart => exact ⟨1, rfl, by omega, by omega, rfl, rfl, rfl⟩
        case round =>
          obtain ⟨k1, hg, hk0, hk, rfl, rfl, rfl⟩ := hrel
          have HG2 := Lib.hid hg
          clear hg
          have hA : looseAcc c ((b.drop (j + 1)).take (k1 - 1)) < 8388608 := (HSM.out (k1 - 1) (by omega)).1
          by_cases hst : k1 ≤ 0 ∧ j + k1 < b.length
          · exact absurd hst.1 (by omega)
          · have hAM : looseAcc c ((b.drop (j + 1)).take (k1 - 1)) = looseAcc c ((b.drop (j + 1)).take 0) := by
              by_cases hk1 : k1 ≤ 0
              · have hlen : (b.drop (j + 1)).length ≤ k1 - 1 := by rw [List.length_drop]; omega
                rw [List.take_of_length_le hlen, List.take_of_length_le (by omega)]
              · rw [show k1 - 1 = 0 from by omega]
            have r1 : ¬ (k1 : Int) ≤ 0 := by omega
            have hLC := HLC.out
            rw [hAM] at *
            generalize looseAcc c ((b.drop (j + 1)).take 0) = A at *
            have HLC2 := Lib.hid hLC
            clear hAM hLC HLC HSM
            by_cases hbig : 1114111 < A
            · have r4 : (1114111 : Int) < (A : Int) := by omega
              have hnone : wideR b = none := wideR_none (by rw [HL.out, HD.out, HLC2.out, if_pos hbig]; rfl)
              have HNO := Lib.hid hnone
              clear hnone
              all_goals
                go_wp2_with fail
                exact bodyPost_ret (v := .tuple #[.slice none 0 0, .bool false]) (by simp [results, Tryz.results270, go_sem]) rfl (wideOut_no HNO.out HG6.out)
            · have r4 : ¬ (1114111 : Int) < (A : Int) := by omega
              have hb0 : w.heap.size ≤ wr.heap.size := HG6.out.size
              have hvb := (Vals.of_own HO6.out).2
              obtain ⟨a7, c7, w7, hr7, ho7, F7, -⟩ := add_int HO6.out hb0 (by omega) (A : Int) wr.heap.size ((Fr.refl (S := fun _ => False) wr).alloc (.cells #[.int .i64 (A : Int)] 3)) (Blk.new wr 3 #[.int .i64 (A : Int)])
              have G7 := HG6.out.trans' F7 (fun i hi e => absurd hi (by have := hvb i e; omega))
              have HO7 := Lib.hid ho7
              have HG7 := Lib.hid G7
              have HRUN := Lib.hid hr7
              have hl2 : looseL b = (looseL (b.drop (j + 0 + 1))).map ((xs ++ [A]) ++ ·) := by
                rw [HL.out, HD.out, HLC2.out, if_neg hbig, List.drop_drop, Option.map_map, show j + 1 + 0 = j + 0 + 1 from by omega]
                congr 1
                funext l
                simp
              have HL2 := Lib.hid hl2
              have HBIG := Lib.hid hbig
              clear ho7 G7 hr7 hl2 F7 hvb hbig
              all_goals
                go_wp2_with (at_builtin; refine wpList_append_run (by rfl) (.tmp 59) (.tmp 61) 105 (by rfl) _ w7 (by exact HRUN.out) ?_)
                go_roundg (b.length + 4 - (j + 0 + 1))
                case measure => rw [HG.out]; omega
                case rel => exact ⟨xs ++ [A], j + 0 + 1, a7, xs.length + 1, c7, rfl, by omega, rfl, by go_num, (by have := HO7.out; rw [List.length_append, List.length_singleton]; simpa [natInts] using this), HL2.out, le_snoc HXS.out HBIG.out, (by rw [List.length_append, List.length_singleton]; omega), HG7.out⟩
    · have q2 : ¬ (j : Int) < (b.length : Int) := by omega
      have hLb : looseL b = some xs := by rw [HL.out, List.drop_of_length_le (by omega), looseL_nil]; simp
      have hW := wideR_some hLb
      have HW := Lib.hid hW
      have hv6 := (Vals.of_own HO6.out).1
      obtain ⟨a', cap', he, -, -, hz⟩ := Ints.form hv6
      rw [List.length_map] at he hz
      simp only [Value.slice.injEq] at he
      obtain ⟨rfl, rfl, rfl⟩ := he
      have HV6 := Lib.hid hv6
      have HZ := Lib.hid hz
      clear hLb hW hv6 hz HL
      go_wp2_with fail
      obtain ⟨wo, hwo⟩ : ∃ wo : World, wo = wr := ⟨_, rfl⟩
      obtain rfl := hwo
      go_loopg [10] xs.length (fun g k wi => ∃ k1 : Nat, g = xs.length - k1 ∧ k1 ≤ xs.length ∧ k = .int .i64 k1 ∧ (natInts (xs.take k1)).all (mayS 12) = true ∧ wi = wo)
      case atStart => exact ⟨0, rfl, Nat.zero_le _, rfl, rfl, rfl⟩
      case round =>
        obtain ⟨k1, hg, hk, rfl, hall, rfl⟩ := hrel
        have HG2 := Lib.hid hg
        have HALL := Lib.hid hall
        clear hg hall
        by_cases hkl : k1 < xs.length
        · obtain ⟨b8, o8, rfl, hy8⟩ := HZ.out (by omega)
          obtain ⟨n, hn⟩ : ∃ n, xs[k1]? = some n := ⟨_, List.getElem?_eq_getElem hkl⟩
          have en := hy8 k1 n (by rw [List.getElem?_map, hn]; rfl)
          have hat : (natInts (xs.take (k1 + 1))).all (mayS 12) = ((natInts (xs.take k1)).all (mayS 12) && mayS 12 (n : Int)) := by
            rw [List.take_add_one, hn]
            simp [natInts]
          have hno : mayS 12 (n : Int) = false → (natInts xs).all (mayS 12) = false := fun h => by
            rw [List.all_eq_false]
            exact ⟨(n : Int), List.mem_map.2 ⟨n, List.mem_of_getElem? hn, rfl⟩, by simp [h]⟩
          have HAT := Lib.hid hat
          have HNO := Lib.hid hno
          have r1 : (0 : Int) ≤ (k1 : Int) := by omega
          have r2 : (k1 : Int) < (xs.length : Int) := by omega
          clear hy8 hn hat hno
          rcases Bool.eq_false_or_eq_true (mayS 12 (n : Int)) with hm | hm
          · have HM := Lib.hid hm
            have HC := Lib.hid (r06May_any 12 (n : Int))
            clear hm
            go_wp2_with (first | (go_at_call 271; refine (HC.out _).mono ?_; rintro e w' ⟨rfl, rfl⟩; rw [HM.out]))
            go_roundg (xs.length - (k1 + 1))
            case measure => rw [HG2.out]; omega
            case rel => exact ⟨k1 + 1, rfl, by omega, by go_num, by rw [HAT.out, HALL.out, HM.out]; rfl, rfl⟩
          · have HM := Lib.hid hm
            have HC := Lib.hid (r06May_any 12 (n : Int))
            have hnone : wideR b = none := by rw [HW.out, if_neg]; intro h; rw [HNO.out hm] at h; exact absurd h.1 (by decide)
            have HNONE := Lib.hid hnone
            clear hm hnone
            go_wp2_with (first | (go_at_call 271; refine (HC.out _).mono ?_; rintro e w' ⟨rfl, rfl⟩; rw [HM.out]))
            exact bodyPost_ret (v := .tuple #[.slice none 0 0, .bool false]) (by simp [results, Tryz.results270, go_sem]) rfl (wideOut_no HNONE.out HG6.out)
        · have r2 : ¬ (k1 : Int) < (xs.length : Int) := by omega
          have hall : (natInts xs).all (mayS 12) = true := by
            have := HALL.out
            rwa [List.take_of_length_le (by omega)] at this
          have HU := Lib.hid (r06Utf8_any (.slice a6 xs.length c6) xs · · (fun n hn => by have := HXS.out n hn; omega) (by omega))
          have HW2 : wideR b = if encAll xs = b then some xs else none := by rw [HW.out, hall]; simp
          have HWW := Lib.hid HW2
          have hb1 : Bytes wr.drew (.slice a b.length cap) b := (HB.out.old HG6.out).old ((Fr.refl wr).drew)
          have hv1 : Ints wr.drew (.slice a6 xs.length c6) (natInts xs) := HV6.out.old ((Fr.refl wr).drew)
          have G1 : Fr (fun _ => False) w wr.drew := HG6.out.drew
          have S := str_of hb1
          have HB1 := Lib.hid hb1
          have HV1 := Lib.hid hv1
          have HG1 := Lib.hid G1
          clear hall HW2 hb1 hv1 G1 HW HB HV6 HG6 HO6 HX HZ HXS HALL HG HG2
          go_upto_region 25 with fail
          have hF0 : ∀ w5, Fr (fun _ => False) wr.drew w5 → (Go.convert 23 9 (.slice a b.length cap)).run Tryz.prog w5 = .ok (str b) w5 := fun w5 F5 => str_of (HB1.out.old F5)
          have HF0 := Lib.hid hF0
          clear hF0
          by_cases hq : encAll xs = b
          · have z1 : (encAll xs == b) = true := beq_iff_eq.2 hq
            have z2 : (encAll xs != b) = false := by rw [bne, z1]; rfl
            have HR := Lib.hid (show wideR b = some xs by rw [HWW.out, if_pos hq])
            clear hq
            go_region_with (first
              | (go_at_call 235; refine (HU.out _ HV1.out).mono ?_; rintro e w5 ⟨v5, rfl, ho5, F5⟩; obtain ⟨a5, m5, c5, rfl, rfl⟩ := own_shape ho5; have S5 := HF0.out _ F5; have C5 := str_of (Vals.of_own ho5).1))
            all_goals
              have hvv : Ints w5 (.slice a6 xs.length c6) (natInts xs) := HV1.out.old F5
              have HVV := Lib.hid hvv
              have HG5 := Lib.hid (HG1.out.trans F5)
              clear hvv F5 ho5 S S5 C5
              go_wp2_with fail
              refine bodyPost_ret (v := .tuple #[.slice a6 xs.length c6, .bool true]) (by simp [results, Tryz.results270, go_sem]) rfl ⟨_, by rw [HR.out]; rfl, by rw [HR.out]; exact HVV.out, HG5.out⟩
          · have z1 : (encAll xs == b) = false := beq_eq_false_iff_ne.2 hq
            have z2 : (encAll xs != b) = true := by rw [bne, z1]; rfl
            have HR := Lib.hid (show wideR b = none by rw [HWW.out, if_neg hq])
            clear hq
            go_region_with (first
              | (go_at_call 235; refine (HU.out _ HV1.out).mono ?_; rintro e w5 ⟨v5, rfl, ho5, F5⟩; obtain ⟨a5, m5, c5, rfl, rfl⟩ := own_shape ho5; have S5 := HF0.out _ F5; have C5 := str_of (Vals.of_own ho5).1))
            all_goals
              have HG5 := Lib.hid (HG1.out.trans F5)
              clear F5 ho5 S S5 C5
              go_wp2_with fail
              exact bodyPost_ret (v := .tuple #[.slice none 0 0, .bool false]) (by simp [results, Tryz.results270, go_sem]) rfl (wideOut_no HR.out HG5.out)
end Go.Proofs.YtacekpdjapgfcaaGreatDoor

namespace Go.Q
open Go Go.RowKit
def sigR (k : Int) (b : List UInt8) : Option (List Int) :=
  if kindOk k = true then
    (if k = 12 then (wideR b).map natInts else
      if k = 30 ∧ b.length % 2 = 1 then none else if (signsS k b).all (mayS k) = true then some (signsS k b) else none)
  else none
theorem sigR_ok {k : Int} {b : List UInt8} {l : List Int} (h : sigR k b = some l) : rightS k b = true ∧ signsS k b = l := by
  unfold sigR at h
  split at h
  · rename_i hk
    split at h
    · rename_i h12
      subst h12
      cases hw : wideR b with
      | none => rw [hw] at h; cases h
      | some ns =>
        rw [hw] at h
        simp only [Option.map_some, Option.some.injEq] at h
        have := wideR_ok hw
        exact ⟨this.2.2.2, this.2.2.1.trans h⟩
    · split at h
      · cases h
      · split at h
        · rename_i ha
          simp only [Option.some.injEq] at h
          exact ⟨by unfold rightS; rw [hk, ha]; rfl, h⟩
        · cases h
  · cases h
theorem pairs_snoc (x y : UInt8) : ∀ (l : List UInt8), l.length % 2 = 0 → pairsS (l ++ [x, y]) = pairsS l ++ [((x.toNat * 256 + y.toNat : Nat) : Int)]
  | [], _ => rfl
  | [_], h => by simp at h
  | a :: b :: t, h => by
    have := pairs_snoc x y t (by simp at h; omega)
    simp only [List.cons_append, pairsS, this]
theorem pairs_take {b : List UInt8} {m : Nat} {x y : UInt8} (hx : b[2 * m]? = some x) (hy : b[2 * m + 1]? = some y) : pairsS (b.take (2 * (m + 1))) = pairsS (b.take (2 * m)) ++ [((x.toNat * 256 + y.toNat : Nat) : Int)] := by
  have h1 : b.take (2 * m + 1) = b.take (2 * m) ++ [x] := by rw [List.take_add_one, hx]; rfl
  have h2 : b.take (2 * m + 2) = b.take (2 * m + 1) ++ [y] := by rw [show 2 * m + 2 = 2 * m + 1 + 1 from rfl, List.take_add_one, hy]; rfl
  rw [show 2 * (m + 1) = 2 * m + 2 from by omega, h2, h1, List.append_assoc]
  refine pairs_snoc x y _ ?_
  have := (List.getElem?_eq_some_iff.1 hx).1
  rw [List.length_take]
  omega
end Go.Q
namespace Go.Proofs.YtacekpdjapgfcaaGreatDoor
open Go Go.RowKit Go.Q
def RSigOut (w w' : World) (k : Int) (b : List UInt8) (e : Ending) : Prop :=
  ∃ v, e = .returned (.tuple #[v, .bool (sigR k b).isSome]) ∧ Ints w' v ((sigR k b).getD []) ∧ Fr (fun _ => False) w w'
theorem sigOut_no {w w' : World} {k : Int} {b : List UInt8} (h : sigR k b = none) (F : Fr (fun _ => False) w w') : RSigOut w w' k b (.returned (.tuple #[.slice none 0 0, .bool false])) := by
  refine ⟨_, by rw [h]; rfl, ?_, F⟩
  rw [h]
  exact Vals.nil w'
set_option maxRecDepth 20000 in
set_option maxHeartbeats 4000000 in
theorem r06Signs_12 (v : Value) (b : List UInt8) (w : World) (h : Bytes w v b) (hlim : b.length ≤ 16777216) :
    Calls Tryz.prog 234 #[.agg #[.int .i64 12, v]] w fun e w' => RSigOut w w' 12 b e := by
  obtain ⟨a, cap, rfl, -, -, hx⟩ := h.form
  have HB := Lib.hid h
  have HX := Lib.hid hx
  obtain ⟨z, hz⟩ : ∃ z, z = w.heap.size := ⟨_, rfl⟩
  have B := Blk.new w 249 #[.int .i64 12, .slice a b.length cap]
  have F0 : Fr (fun _ => False) w (w.alloc (.cells #[.int .i64 12, .slice a b.length cap] 249)) := (Fr.refl w).alloc _
  rw [← hz] at B
  have HZ := Lib.hid hz
  have HF0 := Lib.hid F0
  clear h hx hz F0
  go_enter Tryz.func234, Tryz.ntmps234
  go_upto_region 1 with fail
  rw [← HZ.out]
  generalize (w.alloc (.cells #[.int .i64 12, .slice a b.length cap] 249)) = w0 at *
  have t0 := B.cell 0
  have t1 := B.cell 1
  simp only [List.getElem?_toArray, List.getElem?_cons_succ, List.getElem?_cons_zero] at t0 t1
  have hk : Go.Q.kindOk 12 = true := rfl
  have HC := Lib.hid (r06Kind_any 12)
  have HW := Lib.hid (r06wide_any (.slice a b.length cap) b w0 (HB.out.old HF0.out) hlim)
  have hs : sigR 12 b = (wideR b).map natInts := by unfold sigR; rw [if_pos hk, if_pos rfl]
  have HS := Lib.hid hs
  have HKK := Lib.hid hk
  clear hs hk
  go_wp2_with (first | (go_at_call 269; refine (HC.out _).mono ?_; rintro e w' ⟨rfl, rfl⟩; rw [HKK.out]))
  refine HW.out.mono ?_
  rintro e w5 ⟨v5, rfl, hi5, F5⟩
  obtain ⟨a5, m5, c5, rfl⟩ : ∃ a m c, v5 = .slice a m c := by
    obtain ⟨a, c, h, -⟩ := Ints.form hi5
    exact ⟨a, _, c, h⟩
  have HI5 := Lib.hid hi5
  have HF5 := Lib.hid (HF0.out.trans F5)
  clear hi5 F5 HW HC
  go_wp2_with fail
  refine bodyPost_ret (v := .tuple #[.slice a5 m5 c5, .bool (wideR b).isSome]) (by simp [results, Tryz.results234, go_sem]) rfl (show RSigOut w w5 12 b _ from ⟨.slice a5 m5 c5, ?_, ?_, HF5.out⟩)
  · rw [HS.out]
    cases wideR b <;> rfl
  · have := HI5.out
    rw [HS.out]
    cases hw : wideR b with
    | none => rw [hw] at this; exact this
    | some ns => rw [hw] at this; exact this
set_option maxRecDepth 20000 in
set_option maxHeartbeats 4000000 in
theorem r06Signs_none (k : Int) (hk : Go.Q.kindOk k = false) (v : Value) (b : List UInt8) (w : World) (h : Bytes w v b) (_hlim : b.length ≤ 16777216) :
    Calls Tryz.prog 234 #[.agg #[.int .i64 k, v]] w fun e w' => RSigOut w w' k b e := by
  obtain ⟨a, cap, rfl, -, -, hx⟩ := h.form
  have HB := Lib.hid h
  have HX := Lib.hid hx
  obtain ⟨z, hz⟩ : ∃ z, z = w.heap.size := ⟨_, rfl⟩
  have B := Blk.new w 249 #[.int .i64 k, .slice a b.length cap]
  have F0 : Fr (fun _ => False) w (w.alloc (.cells #[.int .i64 k, .slice a b.length cap] 249)) := (Fr.refl w).alloc _
  rw [← hz] at B
  have HZ := Lib.hid hz
  have HF0 := Lib.hid F0
  clear h hx hz F0
  go_enter Tryz.func234, Tryz.ntmps234
  go_upto_region 1 with fail
  rw [← HZ.out]
  generalize (w.alloc (.cells #[.int .i64 k, .slice a b.length cap] 249)) = w0 at *
  have t0 := B.cell 0
  have t1 := B.cell 1
  simp only [List.getElem?_toArray, List.getElem?_cons_succ, List.getElem?_cons_zero] at t0 t1
  have HC := Lib.hid (r06Kind_any k)
  have hn : sigR k b = none := by unfold sigR; rw [hk]; rfl
  have HN := Lib.hid hn
  have HKK := Lib.hid hk
  clear hn hk
  go_wp2_with (first | (go_at_call 269; refine (HC.out _).mono ?_; rintro e w' ⟨rfl, rfl⟩; rw [HKK.out]))
  exact bodyPost_ret (v := .tuple #[.slice none 0 0, .bool false]) (by simp [results, Tryz.results234, go_sem]) rfl (sigOut_no HN.out HF0.out)
end Go.Proofs.YtacekpdjapgfcaaGreatDoor

namespace Go.Proofs.YtacekpdjapgfcaaGreatDoor
open Go Go.RowKit Go.Q
set_option maxRecDepth 20000 in
set_option maxHeartbeats 4000000 in
theorem r06Signs_30 (v : Value) (b : List UInt8) (w : World) (h : Bytes w v b) (hlim : b.length ≤ 16777216) :
    Calls Tryz.prog 234 #[.agg #[.int .i64 30, v]] w fun e w' => RSigOut w w' 30 b e := by
  obtain ⟨a, cap, rfl, -, -, hx⟩ := h.form
  have HB := Lib.hid h
  have HX := Lib.hid hx
  obtain ⟨z, hz⟩ : ∃ z, z = w.heap.size := ⟨_, rfl⟩
  have B := Blk.new w 249 #[.int .i64 30, .slice a b.length cap]
  have F0 : Fr (fun _ => False) w (w.alloc (.cells #[.int .i64 30, .slice a b.length cap] 249)) := (Fr.refl w).alloc _
  rw [← hz] at B
  have HZ := Lib.hid hz
  have HF0 := Lib.hid F0
  clear h hx hz F0
  go_enter Tryz.func234, Tryz.ntmps234
  go_upto_region 1 with fail
  rw [← HZ.out]
  generalize (w.alloc (.cells #[.int .i64 30, .slice a b.length cap] 249)) = w0 at *
  have t0 := B.cell 0
  have t1 := B.cell 1
  simp only [List.getElem?_toArray, List.getElem?_cons_succ, List.getElem?_cons_zero] at t0 t1
  have hk : Go.Q.kindOk 30 = true := rfl
  have HC := Lib.hid (r06Kind_any 30)
  have p12 : ((30 : Int) == 12) = false := rfl
  have HKK := Lib.hid hk
  have hP : signsS 30 b = pairsS b := rfl
  by_cases hodd : b.length % 2 = 1
  · have z1 : ((b.length : Int) % 2 == 1) = true := beq_iff_eq.2 (by omega)
    have z2 : (b.length % 2 == 1) = true := beq_iff_eq.2 hodd
    have hn : sigR 30 b = none := by unfold sigR; rw [if_pos hk, if_neg (by decide), if_pos ⟨rfl, hodd⟩]
    have HN := Lib.hid hn
    clear hn hk hP
    go_wp2_with (first | (go_at_call 269; refine (HC.out _).mono ?_; rintro e w' ⟨rfl, rfl⟩; rw [HKK.out]))
    exact bodyPost_ret (v := .tuple #[.slice none 0 0, .bool false]) (by simp [results, Tryz.results234, go_sem]) rfl (sigOut_no HN.out HF0.out)
  · have z1 : ((b.length : Int) % 2 == 1) = false := beq_eq_false_iff_ne.2 (by omega)
    have z2 : (b.length % 2 == 1) = false := beq_eq_false_iff_ne.2 hodd
    have HP := Lib.hid hP
    have HB0 := Lib.hid B
    clear hk hP
    go_wp2_with (first | (go_at_call 269; refine (HC.out _).mono ?_; rintro e w' ⟨rfl, rfl⟩; rw [HKK.out]))
    clear t0 t1
    go_loopg [4, 5] b.length (fun g l i wr => ∃ (j : Nat) (a6 : Option Addr) (n6 c6 : Nat), g = b.length - j ∧ j ≤ b.length ∧ j % 2 = 0 ∧ l = .slice a6 n6 c6 ∧ i = .int .i64 j ∧ wr.ownsRow (z + 1) 3 1 (.slice a6 n6 c6) n6 (intCells (pairsS (b.take j))) ∧ Fr (fun _ => False) w wr ∧ Blk wr z 249 #[.int .i64 30, .slice a b.length cap] ∧ 2 * n6 = j)
    case atStart => exact ⟨0, none, 0, 0, rfl, Nat.zero_le _, rfl, rfl, rfl, ⟨rfl, .inl ⟨rfl, rfl⟩⟩, HF0.out, HB0.out, rfl⟩
    case round =>
      obtain ⟨j, a6, N6, c6, hg, hj, hj2, rfl, rfl, ho6, G6, B, hN6⟩ := hrel
      have HG := Lib.hid hg
      have HO6 := Lib.hid ho6
      have HG6 := Lib.hid G6
      have t0 := B.cell 0
      have t1 := B.cell 1
      simp only [List.getElem?_toArray, List.getElem?_cons_succ, List.getElem?_cons_zero] at t0 t1
      clear hg ho6 G6
      by_cases hjl : j < b.length
      · obtain ⟨bb, oo, rfl, hy⟩ := HX.out (by omega)
        obtain ⟨x, hxj⟩ : ∃ x, b[j]? = some x := ⟨_, List.getElem?_eq_getElem hjl⟩
        obtain ⟨y, hyj⟩ : ∃ y, b[j + 1]? = some y := ⟨_, List.getElem?_eq_getElem (by omega)⟩
        have e1 := HG6.out.cell (hy j x hxj) (fun h => h)
        have e2 := HG6.out.cell (hy (j + 1) y hyj) (fun h => h)
        have hT : pairsS (b.take (j + 2)) = pairsS (b.take j) ++ [256 * (x.toNat : Int) + (y.toNat : Int)] := by
          obtain ⟨m, rfl⟩ : ∃ m, j = 2 * m := ⟨j / 2, by omega⟩
          have := pairs_take hxj hyj
          rw [show 2 * (m + 1) = 2 * m + 2 from by omega] at this
          rw [this]
          congr 2
          omega
        have hx1 := x.toNat_lt
        have hx2 := y.toNat_lt
        generalize x.toNat = xx at *
        generalize y.toNat = yy at *
        have w1 : wrap64 (xx : Int) = (xx : Int) := by unfold wrap64; omega
        have w2 : wrap64 (yy : Int) = (yy : Int) := by unfold wrap64; omega
        have HT := Lib.hid hT
        have r1 : (0 : Int) ≤ (j : Int) := by omega
        have r2 : (j : Int) < (b.length : Int) := by omega
        have r3 : (j : Int) + 1 < (b.length : Int) := by omega
        have r4 : (0 : Int) ≤ (j : Int) + 1 := by omega
        have r5 : ((j : Int) + 1).toNat = j + 1 := by omega
        have v1 : IntKind.i64.wrap ((j : Int) + 1) = (j : Int) + 1 := by rw [IntKind.wrap_i64]; omega
        have v2 : IntKind.i64.wrap (256 * (xx : Int)) = 256 * (xx : Int) := by rw [IntKind.wrap_i64]; omega
        have v3 : IntKind.i64.wrap (256 * (xx : Int) + (yy : Int)) = 256 * (xx : Int) + (yy : Int) := by rw [IntKind.wrap_i64]; omega
        have v4 : IntKind.i64.wrap (xx : Int) = (xx : Int) := by rw [IntKind.wrap_i64]; omega
        have v5 : IntKind.i64.wrap (yy : Int) = (yy : Int) := by rw [IntKind.wrap_i64]; omega
        have hb0 : z + 1 ≤ wr.heap.size := B.lt
        have hvb := (Vals.of_own HO6.out).2
        obtain ⟨a7, c7, w7, hr7, ho7, F7, -⟩ := add_int HO6.out hb0 (by omega) (256 * (xx : Int) + (yy : Int)) wr.heap.size (((Fr.refl (S := fun _ => False) wr).drew).alloc (.cells #[.int .i64 (256 * (xx : Int) + (yy : Int))] 3)) (Blk.new wr.drew 3 #[.int .i64 (256 * (xx : Int) + (yy : Int))])
        have G7 := HG6.out.trans' F7 (fun i hi e => absurd hi (by have := hvb i e; have := HZ.out; omega))
        have B7 := B.fr F7 (fun e => by have := hvb z e; omega)
        rw [← HT.out] at ho7
        have HO7 := Lib.hid ho7
        have HG7 := Lib.hid G7
        have HB7 := Lib.hid B7
        have HRUN := Lib.hid hr7
        clear ho7 G7 B7 hr7 F7 hvb hT hxj hyj hy B
        go_wp2_with fail
        go_region_law (first | (refine step_append_run (by rfl) (.tmp 35) (.tmp 51) 105 (by rfl) _ w7 (by exact HRUN.out) ?_) | fail)
        all_goals
          go_wp2_with fail
          go_roundg (b.length - (j + 2))
          case measure => rw [HG.out]; omega
          case rel => exact ⟨j + 2, a7, N6 + 1, c7, rfl, by omega, by omega, rfl, by go_num, HO7.out, HG7.out, HB7.out, by omega⟩
      · obtain rfl : j = b.length := by omega
        rw [List.take_length] at HO6
        have r2 : ¬ (b.length : Int) < (b.length : Int) := by omega
        obtain ⟨L, hL⟩ : ∃ L, L = signsS 30 b := ⟨_, rfl⟩
        have hsig : sigR 30 b = if L.all (mayS 30) = true then some L else none := by rw [hL]; unfold sigR; rw [if_pos HKK.out, if_neg (by decide), if_neg (fun h => hodd h.2)]
        have hoL := HO6.out
        rw [← HP.out, ← hL] at hoL
        have h2N := hN6
        clear hL hN6
        have hN6 : N6 = L.length := by have := hoL.1; rw [intCells_len] at this; omega
        subst hN6
        have hv6 := (Vals.of_own hoL).1
        obtain ⟨a', cap', he, -, -, hz6⟩ := Ints.form hv6
        simp only [Value.slice.injEq, true_and] at he
        obtain ⟨rfl, rfl⟩ := he
        have HSIG := Lib.hid hsig
        have HV6 := Lib.hid hv6
        have HZ6 := Lib.hid hz6
        have HBK := Lib.hid B
        clear hsig hv6 hz6 hoL HX HG HO6 HB
        go_wp2_with fail
        obtain ⟨wo, hwo⟩ : ∃ wo : World, wo = wr := ⟨_, rfl⟩
        obtain rfl := hwo
        go_loopg [7] L.length (fun g q wi => ∃ k1 : Nat, g = L.length - k1 ∧ k1 ≤ L.length ∧ q = .int .i64 k1 ∧ (L.take k1).all (mayS 30) = true ∧ Fr (fun _ => False) wo wi)
        case atStart => exact ⟨0, rfl, Nat.zero_le _, rfl, rfl, Fr.refl _⟩
        case round =>
          obtain ⟨k1, hg, hk1, rfl, hall, F8⟩ := hrel
          have HG2 := Lib.hid hg
          have HALL := Lib.hid hall
          have B8 := HBK.out.fr F8 (fun h => h)
          have HF8 := Lib.hid F8
          have t0 := B8.cell 0
          have t1 := B8.cell 1
          simp only [List.getElem?_toArray, List.getElem?_cons_succ, List.getElem?_cons_zero] at t0 t1
          clear hg hall
          by_cases hkl : k1 < L.length
          · obtain ⟨b8, o8, rfl, hy8⟩ := HZ6.out (by omega)
            obtain ⟨n, hn⟩ : ∃ n, L[k1]? = some n := ⟨_, List.getElem?_eq_getElem hkl⟩
            have en := F8.cell (hy8 k1 n hn) (fun h => h)
            have hat : (L.take (k1 + 1)).all (mayS 30) = ((L.take k1).all (mayS 30) && mayS 30 n) := by
              rw [List.take_add_one, hn]
              simp
            have hno : mayS 30 n = false → L.all (mayS 30) = false := fun h => by
              rw [List.all_eq_false]
              exact ⟨n, List.mem_of_getElem? hn, by simp [h]⟩
            have HAT := Lib.hid hat
            have HNO := Lib.hid hno
            have r1 : (0 : Int) ≤ (k1 : Int) := by omega
            have r2 : (k1 : Int) < (L.length : Int) := by omega
            clear hy8 hn hat hno F8
            rcases Bool.eq_false_or_eq_true (mayS 30 n) with hm | hm
            · have hC : ∀ w, Calls Tryz.prog 271 #[.int .i64 30, .int .i64 n] w fun e w' => e = .returned (.bool true) ∧ w' = w := fun w => (r06May_any 30 n w).mono (by rintro e w' ⟨rfl, rfl⟩; exact ⟨by rw [hm], rfl⟩)
              have HC := Lib.hid hC
              have HM := Lib.hid hm
              clear hm hC
              go_wp2_with fail
              go_quiet ((go_at_call 271; exact Calls.quiet_of_same (HC.out _)))
              go_wp2_with fail
              go_roundg (L.length - (k1 + 1))
              case measure => rw [HG2.out]; omega
              case rel => exact ⟨k1 + 1, rfl, by omega, by go_num, by rw [HAT.out, HALL.out, HM.out]; rfl, HF8.out.drewN _⟩
            · have hC : ∀ w, Calls Tryz.prog 271 #[.int .i64 30, .int .i64 n] w fun e w' => e = .returned (.bool false) ∧ w' = w := fun w => (r06May_any 30 n w).mono (by rintro e w' ⟨rfl, rfl⟩; exact ⟨by rw [hm], rfl⟩)
              have HC := Lib.hid hC
              have hnone : sigR 30 b = none := by rw [HSIG.out, if_neg]; intro h; rw [HNO.out hm] at h; exact absurd h (by decide)
              have HNONE := Lib.hid hnone
              clear hm hnone hC
              go_wp2_with fail
              go_quiet ((go_at_call 271; exact Calls.quiet_of_same (HC.out _)))
              go_wp2_with fail
              exact bodyPost_ret (v := .tuple #[.slice none 0 0, .bool false]) (by simp [results, Tryz.results234, go_sem]) rfl (sigOut_no HNONE.out ((HG6.out.trans HF8.out).drewN _))
          · have r2 : ¬ (k1 : Int) < (L.length : Int) := by omega
            have hsome : sigR 30 b = some L := by
              have := HALL.out
              rw [List.take_of_length_le (by omega)] at this
              rw [HSIG.out, if_pos this]
            have HSOME := Lib.hid hsome
            have hvv : Ints wr (.slice a6 L.length c6) L := HV6.out.old F8
            have HVV := Lib.hid hvv
            clear hsome hvv F8
            go_wp2_with fail
            exact bodyPost_ret (v := .tuple #[.slice a6 L.length c6, .bool true]) (by simp [results, Tryz.results234, go_sem]) rfl ⟨_, by rw [HSOME.out]; rfl, by rw [HSOME.out]; exact HVV.out, HG6.out.trans HF8.out⟩
end Go.Proofs.YtacekpdjapgfcaaGreatDoor

namespace Go.Proofs.YtacekpdjapgfcaaGreatDoor
open Go Go.RowKit Go.Q
set_option maxRecDepth 20000 in
set_option maxHeartbeats 4000000 in
theorem r06Signs_one (k : Int) (hk : Go.Q.kindOk k = true) (h12 : k ≠ 12) (h30 : k ≠ 30) (v : Value) (b : List UInt8) (w : World) (h : Bytes w v b) (hlim : b.length ≤ 16777216) :
    Calls Tryz.prog 234 #[.agg #[.int .i64 k, v]] w fun e w' => RSigOut w w' k b e := by
  obtain ⟨a, cap, rfl, -, -, hx⟩ := h.form
  have HB := Lib.hid h
  have HX := Lib.hid hx
  obtain ⟨z, hz⟩ : ∃ z, z = w.heap.size := ⟨_, rfl⟩
  have B := Blk.new w 249 #[.int .i64 k, .slice a b.length cap]
  have F0 : Fr (fun _ => False) w (w.alloc (.cells #[.int .i64 k, .slice a b.length cap] 249)) := (Fr.refl w).alloc _
  rw [← hz] at B
  have HZ := Lib.hid hz
  have HF0 := Lib.hid F0
  clear h hx hz F0
  go_enter Tryz.func234, Tryz.ntmps234
  go_upto_region 1 with fail
  rw [← HZ.out]
  generalize (w.alloc (.cells #[.int .i64 k, .slice a b.length cap] 249)) = w0 at *
  have t0 := B.cell 0
  have t1 := B.cell 1
  simp only [List.getElem?_toArray, List.getElem?_cons_succ, List.getElem?_cons_zero] at t0 t1
  have HC := Lib.hid (r06Kind_any k)
  have p12 : (k == 12) = false := beq_eq_false_iff_ne.2 h12
  have HKK := Lib.hid hk
  have p30 : (k == 30) = false := beq_eq_false_iff_ne.2 h30
  have HB0 := Lib.hid B
  have hP : signsS k b = b.map (fun x => (x.toNat : Int)) := by unfold signsS; rw [if_neg h12, if_neg h30]
  have HP := Lib.hid hP
  clear hk hP
  go_wp2_with (first | (go_at_call 269; refine (HC.out _).mono ?_; rintro e w' ⟨rfl, rfl⟩; rw [HKK.out]))
  clear t0 t1
  go_loopg [4, 6] b.length (fun g l i wr => ∃ (j : Nat) (a6 : Option Addr) (c6 : Nat), g = b.length - j ∧ j ≤ b.length ∧ l = .slice a6 j c6 ∧ i = .int .i64 j ∧ wr.ownsRow (z + 1) 3 1 (.slice a6 j c6) j (intCells ((b.take j).map (fun x => (x.toNat : Int)))) ∧ Fr (fun _ => False) w wr ∧ Blk wr z 249 #[.int .i64 k, .slice a b.length cap])
  case atStart => exact ⟨0, none, 0, rfl, Nat.zero_le _, rfl, rfl, ⟨rfl, .inl ⟨rfl, rfl⟩⟩, HF0.out, HB0.out⟩
  case round =>
    obtain ⟨j, a6, c6, hg, hj, rfl, rfl, ho6, G6, B⟩ := hrel
    have HG := Lib.hid hg
    have HO6 := Lib.hid ho6
    have HG6 := Lib.hid G6
    have t0 := B.cell 0
    have t1 := B.cell 1
    simp only [List.getElem?_toArray, List.getElem?_cons_succ, List.getElem?_cons_zero] at t0 t1
    clear hg ho6 G6
    by_cases hjl : j < b.length
    · obtain ⟨bb, oo, rfl, hy⟩ := HX.out (by omega)
      obtain ⟨x, hxj⟩ : ∃ x, b[j]? = some x := ⟨_, List.getElem?_eq_getElem hjl⟩
      have e1 := HG6.out.cell (hy j x hxj) (fun h => h)
      have hT : (b.take (j + 1)).map (fun x => (x.toNat : Int)) = (b.take j).map (fun x => (x.toNat : Int)) ++ [(x.toNat : Int)] := by
        rw [List.take_add_one, hxj]
        simp
      have hx1 := x.toNat_lt
      generalize x.toNat = xx at *
      have w1 : wrap64 (xx : Int) = (xx : Int) := by unfold wrap64; omega
      have HT := Lib.hid hT
      have r1 : (0 : Int) ≤ (j : Int) := by omega
      have r2 : (j : Int) < (b.length : Int) := by omega
      have hb0 : z + 1 ≤ wr.heap.size := B.lt
      have hvb := (Vals.of_own HO6.out).2
      obtain ⟨a7, c7, w7, hr7, ho7, F7, -⟩ := add_int HO6.out hb0 (by omega) (xx : Int) wr.heap.size ((Fr.refl (S := fun _ => False) wr).alloc (.cells #[.int .i64 (xx : Int)] 3)) (Blk.new wr 3 #[.int .i64 (xx : Int)])
      have G7 := HG6.out.trans' F7 (fun i hi e => absurd hi (by have := hvb i e; have := HZ.out; omega))
      have B7 := B.fr F7 (fun e => by have := hvb z e; omega)
      rw [← HT.out] at ho7
      have HO7 := Lib.hid ho7
      have HG7 := Lib.hid G7
      have HB7 := Lib.hid B7
      have HRUN := Lib.hid hr7
      clear ho7 G7 B7 hr7 F7 hvb hT hxj hy B
      go_wp2_with (at_builtin; refine wpList_append_run (by rfl) (.tmp 60) (.tmp 67) 105 (by rfl) _ w7 (by exact HRUN.out) ?_)
      go_roundg (b.length - (j + 1))
      case measure => rw [HG.out]; omega
      case rel => exact ⟨j + 1, a7, c7, rfl, by omega, rfl, by go_num, HO7.out, HG7.out, HB7.out⟩
    · obtain rfl : j = b.length := by omega
      have r2 : ¬ (b.length : Int) < (b.length : Int) := by omega
      obtain ⟨L, hL⟩ : ∃ L, L = signsS k b := ⟨_, rfl⟩
      have hsig : sigR k b = if L.all (mayS k) = true then some L else none := by rw [hL]; unfold sigR; rw [if_pos HKK.out, if_neg h12, if_neg (fun h => h30 h.1)]
      have hoL := HO6.out
      rw [List.take_length, ← HP.out, ← hL] at hoL
      obtain ⟨N6, hNN⟩ : ∃ N6, N6 = b.length := ⟨_, rfl⟩
      have hoL2 : wr.ownsRow (z + 1) 3 1 (.slice a6 N6 c6) N6 (intCells L) := by rw [hNN]; exact hoL
      have hNL : b.length = L.length := by have := hoL.1; rw [intCells_len] at this; omega
      have HBB := Lib.hid hNL
      clear hL hNN hoL
      rw [hNL] at r2 ⊢
      replace hoL := hoL2
      clear hoL2
      have hN6 : N6 = L.length := by have := hoL.1; rw [intCells_len] at this; omega
      subst hN6
      have hv6 := (Vals.of_own hoL).1
      obtain ⟨a', cap', he, -, -, hz6⟩ := Ints.form hv6
      simp only [Value.slice.injEq, true_and] at he
      obtain ⟨rfl, rfl⟩ := he
      have HSIG := Lib.hid hsig
      have HV6 := Lib.hid hv6
      have HZ6 := Lib.hid hz6
      have HBK := Lib.hid B
      clear hsig hv6 hz6 hoL HX HG HO6 HB
      go_wp2_with fail
      obtain ⟨wo, hwo⟩ : ∃ wo : World, wo = wr := ⟨_, rfl⟩
      obtain rfl := hwo
      go_loopg [7] L.length (fun g q wi => ∃ k1 : Nat, g = L.length - k1 ∧ k1 ≤ L.length ∧ q = .int .i64 k1 ∧ (L.take k1).all (mayS k) = true ∧ Fr (fun _ => False) wo wi)
      case atStart => exact ⟨0, rfl, Nat.zero_le _, rfl, rfl, Fr.refl _⟩
      case round =>
        obtain ⟨k1, hg, hk1, rfl, hall, F8⟩ := hrel
        have HG2 := Lib.hid hg
        have HALL := Lib.hid hall
        have B8 := HBK.out.fr F8 (fun h => h)
        have HF8 := Lib.hid F8
        have t0 := B8.cell 0
        have t1 := B8.cell 1
        simp only [List.getElem?_toArray, List.getElem?_cons_succ, List.getElem?_cons_zero] at t0 t1
        clear hg hall
        by_cases hkl : k1 < L.length
        · obtain ⟨b8, o8, rfl, hy8⟩ := HZ6.out (by omega)
          obtain ⟨n, hn⟩ : ∃ n, L[k1]? = some n := ⟨_, List.getElem?_eq_getElem hkl⟩
          have en := F8.cell (hy8 k1 n hn) (fun h => h)
          have hat : (L.take (k1 + 1)).all (mayS k) = ((L.take k1).all (mayS k) && mayS k n) := by
            rw [List.take_add_one, hn]
            simp
          have hno : mayS k n = false → L.all (mayS k) = false := fun h => by
            rw [List.all_eq_false]
            exact ⟨n, List.mem_of_getElem? hn, by simp [h]⟩
          have HAT := Lib.hid hat
          have HNO := Lib.hid hno
          have r1 : (0 : Int) ≤ (k1 : Int) := by omega
          have r2 : (k1 : Int) < (L.length : Int) := by omega
          clear hy8 hn hat hno F8
          rcases Bool.eq_false_or_eq_true (mayS k n) with hm | hm
          · have hC : ∀ w, Calls Tryz.prog 271 #[.int .i64 k, .int .i64 n] w fun e w' => e = .returned (.bool true) ∧ w' = w := fun w => (r06May_any k n w).mono (by rintro e w' ⟨rfl, rfl⟩; exact ⟨by rw [hm], rfl⟩)
            have HC := Lib.hid hC
            have HM := Lib.hid hm
            clear hm hC
            go_wp2_with fail
            go_quiet ((go_at_call 271; exact Calls.quiet_of_same (HC.out _)))
            go_wp2_with fail
            go_roundg (L.length - (k1 + 1))
            case measure => rw [HG2.out]; omega
            case rel => exact ⟨k1 + 1, rfl, by omega, by go_num, by rw [HAT.out, HALL.out, HM.out]; rfl, HF8.out.drewN _⟩
          · have hC : ∀ w, Calls Tryz.prog 271 #[.int .i64 k, .int .i64 n] w fun e w' => e = .returned (.bool false) ∧ w' = w := fun w => (r06May_any k n w).mono (by rintro e w' ⟨rfl, rfl⟩; exact ⟨by rw [hm], rfl⟩)
            have HC := Lib.hid hC
            have hnone : sigR k b = none := by rw [HSIG.out, if_neg]; intro h; rw [HNO.out hm] at h; exact absurd h (by decide)
            have HNONE := Lib.hid hnone
            clear hm hnone hC
            go_wp2_with fail
            go_quiet ((go_at_call 271; exact Calls.quiet_of_same (HC.out _)))
            go_wp2_with fail
            exact bodyPost_ret (v := .tuple #[.slice none 0 0, .bool false]) (by simp [results, Tryz.results234, go_sem]) rfl (sigOut_no HNONE.out ((HG6.out.trans HF8.out).drewN _))
        · have r2 : ¬ (k1 : Int) < (L.length : Int) := by omega
          have hsome : sigR k b = some L := by
            have := HALL.out
            rw [List.take_of_length_le (by omega)] at this
            rw [HSIG.out, if_pos this]
          have HSOME := Lib.hid hsome
          have hvv : Ints wr (.slice a6 L.length c6) L := HV6.out.old F8
          have HVV := Lib.hid hvv
          clear hsome hvv F8
          go_wp2_with fail
          exact bodyPost_ret (v := .tuple #[.slice a6 L.length c6, .bool true]) (by simp [results, Tryz.results234, go_sem]) rfl ⟨_, by rw [HSOME.out]; rfl, by rw [HSOME.out]; exact HVV.out, HG6.out.trans HF8.out⟩
end Go.Proofs.YtacekpdjapgfcaaGreatDoor

namespace Go.Proofs.YtacekpdjapgfcaaGreatDoor
open Go Go.RowKit Go.Q
theorem r06Signs_any (k : Int) (v : Value) (b : List UInt8) (w : World) (h : Bytes w v b) (hlim : b.length ≤ 16777216) :
    Calls Tryz.prog 234 #[.agg #[.int .i64 k, v]] w fun e w' => RSigOut w w' k b e := by
  rcases Bool.eq_false_or_eq_true (Go.Q.kindOk k) with hk | hk
  · by_cases h12 : k = 12
    · subst h12
      exact r06Signs_12 v b w h hlim
    · by_cases h30 : k = 30
      · subst h30
        exact r06Signs_30 v b w h hlim
      · exact r06Signs_one k hk h12 h30 v b w h hlim
  · exact r06Signs_none k hk v b w h hlim
end Go.Proofs.YtacekpdjapgfcaaGreatDoor

namespace Go.Q
open Go Go.RowKit
theorem decN_cases {n b0 b1 b2 b3 v m : Nat} (h : Lib.decodeN n b0 b1 b2 b3 = (v, m)) (hs : ¬ (v = 65533 ∧ m ≤ 1)) (h0 : b0 < 256) (h1 : b1 < 256) (_ : b2 < 256) (_ : b3 < 256) :
    (m = 1 ∧ v = b0 ∧ v < 128) ∨ (m = 2 ∧ 1 < n ∧ 128 ≤ v ∧ v < 2048 ∧ b0 = 192 + v / 64 ∧ b1 = 128 + v % 64) ∨
    (m = 3 ∧ 2 < n ∧ 2048 ≤ v ∧ v < 65536 ∧ ¬ (55296 ≤ v ∧ v ≤ 57343) ∧ b0 = 224 + v / 4096 ∧ b1 = 128 + v / 64 % 64 ∧ b2 = 128 + v % 64) ∨
    (m = 4 ∧ 3 < n ∧ 65536 ≤ v ∧ v ≤ 1114111 ∧ b0 = 240 + v / 262144 ∧ b1 = 128 + v / 4096 % 64 ∧ b2 = 128 + v / 64 % 64 ∧ b3 = 128 + v % 64) := by
  unfold Lib.decodeN at h
  split at h
  · simp only [Prod.mk.injEq] at h
    exact .inl ⟨by omega, by omega, by omega⟩
  split at h
  · split at h
    · simp only [Prod.mk.injEq] at h
      exact .inr (.inl ⟨by omega, by omega, by omega, by omega, by omega, by omega⟩)
    · simp only [Prod.mk.injEq] at h
      exact absurd ⟨h.1.symm, by omega⟩ hs
  split at h
  · split at h
    · simp only [Prod.mk.injEq] at h
      exact .inr (.inr (.inl ⟨by omega, by omega, by omega, by omega, by omega, by omega, by omega, by omega⟩))
    · simp only [Prod.mk.injEq] at h
      exact absurd ⟨h.1.symm, by omega⟩ hs
  split at h
  · split at h
    · simp only [Prod.mk.injEq] at h
      exact .inr (.inr (.inr ⟨by omega, by omega, by omega, by omega, by omega, by omega, by omega, by omega⟩))
    · simp only [Prod.mk.injEq] at h
      exact absurd ⟨h.1.symm, by omega⟩ hs
  · simp only [Prod.mk.injEq] at h
    exact absurd ⟨h.1.symm, by omega⟩ hs
theorem u8_of {x : UInt8} {n : Nat} (h : x.toNat = n) : x = UInt8.ofNat n := by
  subst h
  exact (UInt8.ofNat_toNat).symm
theorem dec_strict {l : List UInt8} (hl : l ≠ []) (hs : ¬ ((decS l).1 = 65533 ∧ (decS l).2 ≤ 1)) : ∃ n rest, okSign n ∧ l = enc n ++ rest ∧ (decS l).1 = n ∧ (decS l).2 = (enc n).length := by
  obtain ⟨v, m, hvm⟩ : ∃ v m, decS l = (v, m) := ⟨_, _, rfl⟩
  have g : ∀ x : UInt8, x.toNat < 256 := fun x => x.toNat_lt
  have hc := decN_cases (by exact hvm) (by rw [hvm] at hs; exact hs) (g _) (g _) (g _) (g _)
  rw [hvm]
  rcases hc with ⟨rfl, h1, h2⟩ | ⟨rfl, h1, h2, h3, h4, h5⟩ | ⟨rfl, h1, h2, h3, h4, h5, h6, h7⟩ | ⟨rfl, h1, h2, h3, h4, h5, h6, h7⟩
  · have he : enc v = [UInt8.ofNat v] := by unfold enc; rw [if_pos h2]
    match l, hl with
    | x :: t, _ =>
      simp only [List.getD_cons_zero] at h1
      exact ⟨v, t, ⟨by omega, by omega⟩, by rw [he, u8_of h1.symm]; rfl, rfl, by rw [he]; rfl⟩
  · have he : enc v = [UInt8.ofNat (192 + v / 64), UInt8.ofNat (128 + v % 64)] := by unfold enc; rw [if_neg (by omega), if_pos h3]
    match l, h1 with
    | x :: y :: t, _ =>
      simp only [List.getD_cons_zero, List.getD_cons_succ] at h4 h5
      exact ⟨v, t, ⟨by omega, by omega⟩, by rw [he, u8_of h4, u8_of h5]; rfl, rfl, by rw [he]; rfl⟩
  · have he : enc v = [UInt8.ofNat (224 + v / 4096), UInt8.ofNat (128 + v / 64 % 64), UInt8.ofNat (128 + v % 64)] := by unfold enc; rw [if_neg (by omega), if_neg (by omega), if_pos h3]
    match l, h1 with
    | x :: y :: z :: t, _ =>
      simp only [List.getD_cons_zero, List.getD_cons_succ] at h5 h6 h7
      exact ⟨v, t, ⟨by omega, h4⟩, by rw [he, u8_of h5, u8_of h6, u8_of h7]; rfl, rfl, by rw [he]; rfl⟩
  · have he : enc v = [UInt8.ofNat (240 + v / 262144), UInt8.ofNat (128 + v / 4096 % 64), UInt8.ofNat (128 + v / 64 % 64), UInt8.ofNat (128 + v % 64)] := by unfold enc; rw [if_neg (by omega), if_neg (by omega), if_neg (by omega)]
    match l, h1 with
    | x :: y :: z :: u :: t, _ =>
      simp only [List.getD_cons_zero, List.getD_cons_succ] at h4 h5 h6 h7
      exact ⟨v, t, ⟨by omega, by omega⟩, by rw [he, u8_of h4, u8_of h5, u8_of h6, u8_of h7]; rfl, rfl, by rw [he]; rfl⟩
theorem loose_enc {n : Nat} (h : okSign n) (rest : List UInt8) : looseL (enc n ++ rest) = (looseL rest).map (n :: ·) := by
  obtain ⟨h1, h2⟩ := h
  have key : ∀ (x : UInt8) (t : List UInt8) (n0 more : Nat), looseHead x.toNat = (n0, more) → t.length = more → looseAcc n0 t = n → enc n = x :: t → looseL (enc n ++ rest) = (looseL rest).map (n :: ·) := by
    intro x t n0 more hh ht ha he
    rw [he, List.cons_append, looseL_cons hh, ← ht, List.take_left, List.drop_left, ha, if_neg (by omega)]
  by_cases c1 : n < 128
  · have e1 := u8 n (by omega)
    exact key (UInt8.ofNat n) [] n 0 (by rw [e1]; unfold looseHead; rw [if_neg (by omega), if_neg (by omega), if_neg (by omega)]) rfl rfl (by unfold enc; rw [if_pos c1])
  by_cases c2 : n < 2048
  · have e1 := u8 (192 + n / 64) (by omega)
    have e2 := u8 (128 + n % 64) (by omega)
    exact key _ [UInt8.ofNat (128 + n % 64)] (n / 64) 1 (by rw [e1]; unfold looseHead; rw [if_neg (by omega), if_neg (by omega), if_pos (by omega)]; simp) rfl (by simp only [looseAcc, List.foldl_cons, List.foldl_nil, e2]; omega) (by unfold enc; rw [if_neg c1, if_pos c2])
  by_cases c3 : n < 65536
  · have e1 := u8 (224 + n / 4096) (by omega)
    have e2 := u8 (128 + n / 64 % 64) (by omega)
    have e3 := u8 (128 + n % 64) (by omega)
    exact key _ [UInt8.ofNat (128 + n / 64 % 64), UInt8.ofNat (128 + n % 64)] (n / 4096) 2 (by rw [e1]; unfold looseHead; rw [if_neg (by omega), if_pos (by omega)]; simp) rfl (by simp only [looseAcc, List.foldl_cons, List.foldl_nil, e2, e3]; omega) (by unfold enc; rw [if_neg c1, if_neg c2, if_pos c3])
  · have e1 := u8 (240 + n / 262144) (by omega)
    have e2 := u8 (128 + n / 4096 % 64) (by omega)
    have e3 := u8 (128 + n / 64 % 64) (by omega)
    have e4 := u8 (128 + n % 64) (by omega)
    exact key _ [UInt8.ofNat (128 + n / 4096 % 64), UInt8.ofNat (128 + n / 64 % 64), UInt8.ofNat (128 + n % 64)] (n / 262144) 3 (by rw [e1]; unfold looseHead; rw [if_pos (by omega)]; simp) rfl (by simp only [looseAcc, List.foldl_cons, List.foldl_nil, e2, e3, e4]; omega) (by unfold enc; rw [if_neg c1, if_neg c2, if_neg c3])
theorem loose_all : ∀ ns : List Nat, (∀ n ∈ ns, okSign n) → looseL (encAll ns) = some ns
  | [], _ => rfl
  | n :: t, h => by
    have e : encAll (n :: t) = enc n ++ encAll t := by simp [encAll]
    rw [e, loose_enc (h n (by simp)), loose_all t (fun m hm => h m (by simp [hm]))]
    rfl
theorem wide_strict : ∀ (f : Nat) (b : List UInt8), b.length ≤ f → (wideS f b).all (mayS 12) = true → ∃ ns : List Nat, (∀ n ∈ ns, okSign n) ∧ b = encAll ns ∧ wideS f b = natInts ns
  | f, [], _, _ => ⟨[], fun n hn => absurd hn List.not_mem_nil, rfl, by cases f <;> rfl⟩
  | 0, x :: t, h, _ => by simp at h
  | f + 1, x :: t, h, ha => by
    simp only [wideS, List.all_cons, Bool.and_eq_true] at ha
    obtain ⟨h1, h2⟩ := ha
    have hs : ¬ ((decS (x :: t)).1 = 65533 ∧ (decS (x :: t)).2 ≤ 1) := fun hc => by
      rw [if_pos hc] at h1
      simp [mayS] at h1
    obtain ⟨n, rest, hn, he, hd1, hd2⟩ := dec_strict (List.cons_ne_nil x t) hs
    have hp := enc_pos n
    have hlen : (enc n).length + rest.length = t.length + 1 := by
      have := congrArg List.length he
      simpa [List.length_append] using this.symm
    have hdrop : (x :: t).drop (decS (x :: t)).2 = rest := by rw [hd2, he, List.drop_left]
    rw [hdrop] at h2
    obtain ⟨ns, g1, g2, g3⟩ := wide_strict f rest (by simp at h; omega) h2
    refine ⟨n :: ns, fun m hm => ?_, ?_, ?_⟩
    · rcases List.mem_cons.1 hm with rfl | hm
      · exact hn
      · exact g1 m hm
    · rw [he, g2]; simp [encAll]
    · simp only [wideS]
      rw [if_neg hs, hdrop, hd1, g3]
      rfl
theorem sigR_right {k : Int} {b : List UInt8} (h : rightS k b = true) : sigR k b = some (signsS k b) := by
  have hr := h
  unfold rightS at h
  rw [Bool.and_eq_true] at h
  obtain ⟨hk, ha⟩ := h
  unfold sigR
  rw [if_pos hk]
  by_cases h12 : k = 12
  · subst h12
    rw [if_pos rfl]
    have ha2 : (wideS b.length b).all (mayS 12) = true := ha
    obtain ⟨ns, g1, g2, g3⟩ := wide_strict b.length b (Nat.le_refl _) ha2
    have hs : signsS 12 b = natInts ns := g3
    have hw : wideR b = some ns := by
      rw [wideR_some (ns := ns) (by rw [g2]; exact loose_all ns g1), if_pos ⟨by rw [← hs]; exact ha, g2.symm⟩]
    rw [hw, hs]
    rfl
  · rw [if_neg h12]
    by_cases h30 : k = 30 ∧ b.length % 2 = 1
    · exfalso
      obtain ⟨rfl, ho⟩ := h30
      have : ∀ l : List UInt8, l.length % 2 = 1 → (-1 : Int) ∈ pairsS l := by
        intro l
        induction hn : l.length using Nat.strongRecOn generalizing l with
        | _ n ih =>
          intro hl
          match l, hl with
          | [x], _ => simp [pairsS]
          | x :: y :: t, hl =>
            simp only [pairsS, List.mem_cons]
            have hl2 : n % 2 = 1 := hl
            have hn2 : t.length + 1 + 1 = n := hn
            exact .inr (ih t.length (by omega) t rfl (by omega))
      have hm := this b ho
      have hs : signsS 30 b = pairsS b := rfl
      rw [hs] at ha
      have := List.all_eq_true.1 ha _ hm
      exact absurd this (by decide)
    · rw [if_neg h30, if_pos ha]
theorem sigR_iff (k : Int) (b : List UInt8) : sigR k b = if rightS k b = true then some (signsS k b) else none := by
  by_cases h : rightS k b = true
  · rw [if_pos h, sigR_right h]
  · rw [if_neg h]
    cases hs : sigR k b with
    | none => rfl
    | some l => exact absurd (sigR_ok hs).1 h
end Go.Q

namespace Go.Q
open Go Go.RowKit
theorem kind_contains (k : Int) : ([12, 19, 20, 22, 26, 30] : List Int).contains k = kindOk k := by
  unfold kindOk
  rw [Bool.eq_iff_iff]
  simp
def printB (n : Int) : Bool := (decide (97 ≤ n ∧ n ≤ 122) || decide (65 ≤ n ∧ n ≤ 90) || decide (48 ≤ n ∧ n ≤ 57)) || (decide (0 < n ∧ n < 128) && decide (0 ≤ Lib.indexByte [32, 39, 40, 41, 43, 44, 45, 46, 47, 58, 61, 63] (UInt8.ofNat n.toNat)))
set_option maxRecDepth 100000 in
theorem printB_small : ∀ m : Fin 256, printB (m.val : Int) = printables.contains (UInt8.ofNat m.val) := by decide +kernel
theorem printB_eq (n : Int) : printB n = mayS 19 n := by
  simp only [mayS, show ¬ ((19 : Int) = 12) from by decide, if_false, if_true]
  by_cases h : 0 ≤ n ∧ n < 256
  · obtain ⟨m, rfl⟩ : ∃ m : Nat, n = m := ⟨n.toNat, by omega⟩
    have := printB_small ⟨m, by omega⟩
    simp only at this
    rw [this, decide_eq_true h, Bool.true_and, Int.toNat_natCast]
  · rw [decide_eq_false h, Bool.false_and]
    unfold printB
    rw [decide_eq_false (by omega), decide_eq_false (by omega), decide_eq_false (by omega), decide_eq_false (by omega)]
    rfl
end Go.Q
namespace Go.Proofs.YtacekpdjapgfcaaGreatDoor
open Go Go.RowKit Go.Q
set_option maxRecDepth 20000 in
theorem known_any (k : Int) (w : World) :
    Calls Tryz.prog 201 #[.int .i64 k] w fun e w' => e = .returned (.bool (Go.Q.kindOk k)) ∧ Fr (fun _ => False) w w' := by
  have F : Fr (fun _ => False) w (w.alloc (.cells #[.int .i64 12, .int .i64 19, .int .i64 20, .int .i64 22, .int .i64 26, .int .i64 30] 3)) := (Fr.refl w).alloc _
  have B := Blk.new w 3 #[.int .i64 12, .int .i64 19, .int .i64 20, .int .i64 22, .int .i64 26, .int .i64 30]
  have H := Go.Proofs.Tryz.slices_Contains_int w.heap.size 0 6 6 [12, 19, 20, 22, 26, 30] k _ (by simp) (by omega) (fun j hj => by
    rw [Nat.zero_add, B.cell]
    match j, hj with
    | 0, _ => rfl
    | 1, _ => rfl
    | 2, _ => rfl
    | 3, _ => rfl
    | 4, _ => rfl
    | 5, _ => rfl
    | j + 6, hj => simp at hj; omega)
  rw [show ([12, 19, 20, 22, 26, 30] : List Int).take 6 = [12, 19, 20, 22, 26, 30] from rfl, kind_contains] at H
  have HH := Lib.hid H
  have HF := Lib.hid F
  clear H F B
  go_enter Tryz.func201, Tryz.ntmps201
  go_wp2_with (first | (go_at_call 197; go_in))
  refine HH.out.mono ?_
  rintro e w' ⟨rfl, rfl⟩
  go_wp2_with fail
  go_ret
  exact ⟨rfl, HF.out⟩
theorem surr_any (n : Int) (w : World) :
    Calls Tryz.prog 248 #[.int .i64 n] w fun e w' => e = .returned (.bool (surr n)) ∧ w = w' := by
  have hs : surr n = if 55296 ≤ n then (if n ≤ 57343 then true else false) else false := by
    unfold surr
    split
    · split
      · exact decide_eq_true (by omega)
      · exact decide_eq_false (by omega)
    · exact decide_eq_false (by omega)
  have HS := Lib.hid hs
  clear hs
  rcases Int.lt_or_le n 55296 with h1 | h1
  · have q1 : ¬ (55296 : Int) ≤ n := by omega
    go_enter Tryz.func248, Tryz.ntmps248
    go_wp2_with fail
    go_ret
    exact ⟨by rw [HS.out, if_neg (by omega)]; rfl, rfl⟩
  · rcases Int.lt_or_le 57343 n with h2 | h2
    · have q2 : ¬ n ≤ (57343 : Int) := by omega
      go_enter Tryz.func248, Tryz.ntmps248
      go_wp2_with fail
      go_ret
      exact ⟨by rw [HS.out, if_pos h1, if_neg (by omega)]; rfl, rfl⟩
    · go_enter Tryz.func248, Tryz.ntmps248
      go_wp2_with fail
      go_ret
      exact ⟨by rw [HS.out, if_pos h1, if_pos h2]; rfl, rfl⟩
end Go.Proofs.YtacekpdjapgfcaaGreatDoor

namespace Go.Proofs.YtacekpdjapgfcaaGreatDoor
open Go Go.RowKit Go.Q
set_option maxRecDepth 20000 in
theorem printable_any (n : Int) (w : World) :
    Calls Tryz.prog 249 #[.int .i64 n] w fun e w' => e = .returned (.bool (mayS 19 n)) ∧ w = w' := by
  go_enter Tryz.func249, Tryz.ntmps249
  go_wp2_with (first | (go_at_call 285; refine (Go.Proofs.Tryz.strings_IndexByte _ _ w).mono ?_; rintro e w' ⟨rfl, rfl⟩))
  all_goals
    go_ret
    refine ⟨?_, rfl⟩
    rw [← printB_eq]
    first
    | (have e : printB n = true := by unfold printB; rw [Bool.or_eq_true]; left; simp only [Bool.or_eq_true, decide_eq_true_eq]; omega
       rw [e]; rfl)
    | (have e : printB n = false := by unfold printB; rw [decide_eq_false (by omega), decide_eq_false (by omega), decide_eq_false (by omega), decide_eq_false (by omega)]; rfl
       rw [e]; rfl)
    | (have e : printB n = decide (0 ≤ Lib.indexByte [32, 39, 40, 41, 43, 44, 45, 46, 47, 58, 61, 63] (UInt8.ofNat n.toNat)) := by
         unfold printB; rw [decide_eq_false (by omega), decide_eq_false (by omega), decide_eq_false (by omega), decide_eq_true (by omega)]; rfl
       have hw : IntKind.u8.wrap n = n := by simp [IntKind.wrap, IntKind.signed, IntKind.bits]; omega
       have e2 : UInt8.ofNat n.toNat = (IntKind.u8.wrap n).toNat.toUInt8 := by rw [hw]
       rw [e, e2]
       rfl)
set_option maxRecDepth 20000 in
set_option maxHeartbeats 1000000 in
theorem may_any (k n : Int) (w : World) :
    Calls Tryz.prog 202 #[.int .i64 k, .int .i64 n] w fun e w' => e = .returned (.bool (mayS k n)) ∧ w = w' := by
  have hk : k = 12 ∨ k = 19 ∨ k = 20 ∨ k = 22 ∨ k = 26 ∨ k = 30 ∨ (k ≠ 12 ∧ k ≠ 19 ∧ k ≠ 20 ∧ k ≠ 22 ∧ k ≠ 26 ∧ k ≠ 30) := by omega
  rcases hk with rfl | rfl | rfl | rfl | rfl | rfl | ⟨h1, h2, h3, h4, h5, h6⟩
  case' inr.inr.inr.inr.inr.inr =>
    have q1 : (k == 12) = false := beq_eq_false_iff_ne.2 h1
    have q2 : (k == 19) = false := beq_eq_false_iff_ne.2 h2
    have q3 : (k == 20) = false := beq_eq_false_iff_ne.2 h3
    have q4 : (k == 22) = false := beq_eq_false_iff_ne.2 h4
    have q5 : (k == 26) = false := beq_eq_false_iff_ne.2 h5
    have q6 : (k == 30) = false := beq_eq_false_iff_ne.2 h6
  all_goals
    go_enter Tryz.func202, Tryz.ntmps202
    go_wp2_with (first | (go_at_call 248; refine (surr_any _ w).mono ?_; rintro e w' ⟨rfl, rfl⟩) | (go_at_call 249; refine (printable_any _ w).mono ?_; rintro e w' ⟨rfl, rfl⟩))
    all_goals
      go_ret
      refine ⟨?_, rfl⟩
      refine congrArg (fun z => Ending.returned (Value.bool z)) ?_
      first
      | rfl
      | (unfold mayS; simp only [*, Int.reduceEq, if_false, if_true]; done)
      | (simp [mayS, *]; done)
      | (simp [mayS]; omega)
end Go.Proofs.YtacekpdjapgfcaaGreatDoor

namespace Go.Q
open Go Go.RowKit
theorem Fr.putObj {S : Nat → Prop} {a w : World} (h : Fr S a w) (l : Nat) (hl : l < a.heap.size → S l) (o : Obj) : Fr S a (w.putObj l o) :=
  ⟨h.os, h.tape, h.output, by rw [World.putObj_size]; exact h.size, fun k hk hS => by
    rw [World.putObj_heap_other (fun e => hS (by subst e; exact hl hk))]
    exact h.block k hk hS⟩
def Iter (P : Program) (gf : Nat) (lb : Array Value) (xs : List Int) (cb base : Nat) (w : World) : Prop :=
  ∀ (l : Nat) (J Jx : List Int → World → Prop) (W : World), Fr (fun _ => False) w W →
    (∀ s A B, J s A → Fr (fun k => k = cb) A B → J s B) → (∀ s A B, Jx s A → Fr (fun k => k = cb) A B → Jx s B) →
    (∀ pre x rest W1, xs = pre ++ x :: rest → J pre W1 → YieldAt Fence.wide 1 P l #[.int .i64 x] W1 fun e W' =>
      (e = .returned (.bool true) ∧ J (pre ++ [x]) W' ∧ Fr (fun k => base ≤ k ∧ k ≠ cb) W1 W') ∨ (e = .returned (.bool false) ∧ Jx (pre ++ [x]) W')) →
    J [] W →
    CallsIn Fence.wide 2 P gf (#[.func (.yield l) #[] #[]] ++ lb) W fun e W' => (∃ v, e = .returned v) ∧ (J xs W' ∨ ∃ pre, pre <+: xs ∧ Jx pre W')
def seqPost (I : List Int → World → Prop) (Ix : Code → List Int → World → Prop) (base cb : Nat) (E : Nat) (xs : List Int) (W : World) : Exit → Act → World → Prop
  | .normal, _, W' => Fr (fun k => base ≤ k ∧ k ≠ cb ∧ k ≠ E ∧ k ≠ E + 1) W W' ∧ I xs W'
  | .ret, _, W' => Fr (fun k => base ≤ k ∧ k ≠ cb ∧ k ≠ E ∧ k ≠ E + 1) W W' ∧ Ix .ret xs W'
  | .exit id, _, W' => Fr (fun k => base ≤ k ∧ k ≠ cb ∧ k ≠ E ∧ k ≠ E + 1) W W' ∧ Ix (.exit id) xs W'
  | .goto t, _, W' => Fr (fun k => base ≤ k ∧ k ≠ cb ∧ k ≠ E ∧ k ≠ E + 1) W W' ∧ Ix (.goto t) xs W'
  | .panic _, _, _ => False
  | .outgrown, _, _ => False
variable {P : Program}
theorem range_law {g : Operand} {ps : Array Tmp} {assign body : Code} {Q : Exit → Act → World → Prop} {a : Act} {w : World}
    {gf : Nat} {lb : Array Value} (hg : a.eval g = .func (.func gf) #[] lb) (eg : ∀ args w, (callFunc gf args).run P w = .ok (.enter gf args) w)
    {xs : List Int} {cb base : Nat} (hcb : cb < w.heap.size) (hbase : base ≤ w.heap.size) (hseq : Iter P gf lb xs cb base w) (hps : ps.size = 1)
    (I : List Int → World → Prop) (Ix : Code → List Int → World → Prop)
    (hI : ∀ s A B, I s A → Fr (fun k => k = cb ∨ k = w.heap.size ∨ k = w.heap.size + 1) A B → I s B)
    (hIx : ∀ c s A B, Ix c s A → Fr (fun k => k = cb ∨ k = w.heap.size ∨ k = w.heap.size + 1) A B → Ix c s B) (h0 : I [] w) (a₁ : Int → Act)
    (hassign : ∀ (l : Nat) (x : Int) (W : World) (K : Act → World → Prop), K (a₁ x) W →
      assign.wpIn (Fence.wide.inRound l) 1 P (Exit.then K (fun _ _ _ => False)) { tmps := (ps.zip #[.int .i64 x]).foldl (fun t (p, v) => t.setIfInBounds p v) a.tmps, defers := [] } W)
    (hbody : ∀ (l : Nat) (pre : List Int) (x : Int) (rest : List Int) (W : World), xs = pre ++ x :: rest → I pre W → w.heap.size + 2 ≤ W.heap.size → body.wpIn (Fence.wide.inRound l) 1 P (seqPost I Ix base cb w.heap.size (pre ++ [x]) W) (a₁ x) W)
    (hdone : ∀ (D : Nat) (W : World), D = w.heap.size → I xs W → W.heap[D]? = some (.deferred (some [])) → Q .normal { a with defers := { target := .collected D, args := #[] } :: a.defers } W)
    (hstop : ∀ (D : Nat) (c : Code) (pre : List Int) (W : World), D = w.heap.size → pre <+: xs → Ix c pre W → W.heap[D]? = some (.deferred (some [])) → c.wpIn Fence.wide 3 P Q { a with defers := { target := .collected D, args := #[] } :: a.defers } W) :
    (Code.rangeFunc g ps assign body).wpIn Fence.wide 3 P Q a w := by
  refine wpIn_rangeFunc ?_
  intro fn hfn
  obtain ⟨E, hE⟩ : ∃ E, E = w.heap.size := ⟨_, rfl⟩
  obtain ⟨rec, hrec⟩ : ∃ rec : LoopState → Option Code → Loop, rec = fun st pe => { state := st, pending := pe, fn, tmps := a.tmps, params := ps, assign, body, defers := E } := ⟨_, rfl⟩
  obtain ⟨W1, hW1⟩ : ∃ W1, W1 = (w.alloc (.deferred (some []))).alloc (.loop (rec .ready none)) := ⟨_, rfl⟩
  have F1 : Fr (fun _ => False) w W1 := by rw [hW1]; exact ((Fr.refl w).alloc _).alloc _
  have hL1 : W1.heap[E + 1]? = some (.loop (rec .ready none)) := by
    rw [hW1, hE]
    have := World.alloc_heap_new (w.alloc (.deferred (some []))) (.loop (rec .ready none))
    rwa [World.size_alloc] at this
  have hK1 : W1.heap[E]? = some (.deferred (some [])) := by
    rw [hW1, hE]
    exact (Below.heap_alloc _ _ _ (by simp)).trans (World.alloc_heap_new w _)
  have hI1 : I [] W1 := hI [] w W1 h0 (F1.mono (fun _ _ h => h.elim))
  have keep : ∀ {S : Nat → Prop} {A B : World} {k : Nat} {o : Obj}, Fr S A B → A.heap[k]? = some o → ¬ S k → B.heap[k]? = some o := fun f h hS =>
    (f.block _ (Array.getElem?_eq_some_iff.1 h).1 hS).trans h
  have hcbE : cb < E := by rw [hE]; exact hcb
  refine ⟨E + 1, [{ target := .collected E, args := #[] }], W1, { target := .fn (.func gf) lb, args := #[.func (.yield (E + 1)) #[] #[]] }, W1, gf,
    #[.func (.yield (E + 1)) #[] #[]] ++ lb, W1, ?_, ?_, fun _ _ => trivial, ?_, fun _ => by decide, ?_⟩
  · rw [hW1, hrec, hE]
    exact run_enterLoop_outer _ _ _ _ _
  · simp only [resolve, hg]
    simp [go_sem]
  · simp [invoke, go_sem, eg]
  refine (hseq (E + 1)
    (fun pre W => I pre W ∧ W.heap[E + 1]? = some (.loop (rec .ready none)) ∧ W.heap[E]? = some (.deferred (some [])))
    (fun pre W => ∃ c, Ix c pre W ∧ W.heap[E + 1]? = some (.loop (rec .done (some c))) ∧ W.heap[E]? = some (.deferred (some [])))
    W1 F1 ?_ ?_ ?_ ⟨hI1, hL1, hK1⟩).mono ?_
  · rintro s A B ⟨hi, hl, hk⟩ f
    exact ⟨hI s A B hi (f.mono (fun _ _ h => .inl h)), keep f hl (by omega), keep f hk (by omega)⟩
  · rintro s A B ⟨c, hi, hl, hk⟩ f
    exact ⟨c, hIx c s A B hi (f.mono (fun _ _ h => .inl h)), keep f hl (by omega), keep f hk (by omega)⟩
  · rintro pre x rest W hxs ⟨hi, hl, hk⟩
    have hlt : E + 1 < W.heap.size := (Array.getElem?_eq_some_iff.1 hl).1
    have hy := run_yield (P := P) (args := #[.int .i64 x]) hl (by rw [hrec]; simp [hps])
    rw [hrec] at hy
    refine ⟨fn, _, assign, body, hy, roundIn_of_wpIn hfn (hassign _ x W _ ⟨_, run_beginRound hl (by rw [hrec]), ?_⟩)⟩
    obtain ⟨W2, hW2⟩ : ∃ W2, W2 = W.putObj (E + 1) (.loop { rec .ready none with state := .busy }) := ⟨_, rfl⟩
    have F2 : Fr (fun k => k = E + 1) W W2 := by rw [hW2]; exact Fr.putObj (S := fun k => k = E + 1) (Fr.refl W) (E + 1) (fun _ => rfl) _
    have hl2 : W2.heap[E + 1]? = some (.loop { rec .ready none with state := .busy }) := by rw [hW2]; exact World.putObj_heap_same hlt
    have hk2 : W2.heap[E]? = some (.deferred (some [])) := keep F2 hk (by omega)
    rw [← hW2]
    refine wpIn_mono (hbody _ pre x rest W2 hxs (hI pre W W2 hi (F2.mono (fun _ _ h => .inr (.inr (by rw [← hE]; exact h))))) (by rw [← hE]; have := F2.size; omega)) ?_
    have fin : ∀ (jump : Option Code) (W3 : World), Fr (fun k => base ≤ k ∧ k ≠ cb ∧ k ≠ E ∧ k ≠ E + 1) W2 W3 →
        (Instr.endRound (E + 1) jump).run P W3 = .ok (.bool jump.isNone) (W3.putObj (E + 1) (.loop (rec (if jump.isNone then .ready else .done) jump))) ∧
        (W3.putObj (E + 1) (.loop (rec (if jump.isNone then .ready else .done) jump))).heap[E + 1]? = some (.loop (rec (if jump.isNone then .ready else .done) jump)) ∧
        (W3.putObj (E + 1) (.loop (rec (if jump.isNone then .ready else .done) jump))).heap[E]? = some (.deferred (some [])) ∧
        Fr (fun k => k = cb ∨ k = w.heap.size ∨ k = w.heap.size + 1) W3 (W3.putObj (E + 1) (.loop (rec (if jump.isNone then .ready else .done) jump))) ∧
        Fr (fun k => base ≤ k ∧ k ≠ cb) W (W3.putObj (E + 1) (.loop (rec (if jump.isNone then .ready else .done) jump))) := fun jump W3 f3 => by
      have hl3 := keep f3 hl2 (by simp)
      have hk3 := keep f3 hk2 (by simp)
      have hr := run_endRound (P := P) jump hl3
      have f4 : Fr (fun k => k = E + 1) W3 (W3.putObj (E + 1) (.loop (rec (if jump.isNone then .ready else .done) jump))) := Fr.putObj (S := fun k => k = E + 1) (Fr.refl W3) (E + 1) (fun _ => rfl) _
      have g : ∀ k, k = E + 1 → base ≤ k ∧ k ≠ cb := fun k e => by omega
      refine ⟨?_, World.putObj_heap_same (Array.getElem?_eq_some_iff.1 hl3).1, keep f4 hk3 (by omega), f4.mono (fun _ _ h => .inr (.inr (by rw [← hE]; exact h))), ?_⟩
      · rw [hr, hrec]
      · exact ((F2.mono (fun k _ h => g k h)).trans (f3.mono (fun _ _ h => ⟨h.1, h.2.1⟩))).trans (f4.mono (fun k _ h => g k h))
    rw [← hE]
    rintro e a3 W3 hp
    cases e with
    | normal =>
      obtain ⟨f3, hi3⟩ := hp
      obtain ⟨hr, hl4, hk4, f4, f5⟩ := fin none W3 f3
      exact ⟨_, _, hr, .inl ⟨rfl, ⟨hI _ _ _ hi3 f4, hl4, hk4⟩, f5⟩⟩
    | ret =>
      obtain ⟨f3, hi3⟩ := hp
      obtain ⟨hr, hl4, hk4, f4, f5⟩ := fin (some .ret) W3 f3
      exact ⟨_, _, hr, .inr ⟨rfl, .ret, hIx _ _ _ _ hi3 f4, hl4, hk4⟩⟩
    | exit id =>
      obtain ⟨f3, hi3⟩ := hp
      obtain ⟨hr, hl4, hk4, f4, f5⟩ := fin (some (.exit id)) W3 f3
      exact ⟨_, _, hr, .inr ⟨rfl, .exit id, hIx _ _ _ _ hi3 f4, hl4, hk4⟩⟩
    | goto t =>
      obtain ⟨f3, hi3⟩ := hp
      obtain ⟨hr, hl4, hk4, f4, f5⟩ := fin (some (.goto t)) W3 f3
      exact ⟨_, _, hr, .inr ⟨rfl, .goto t, hIx _ _ _ _ hi3 f4, hl4, hk4⟩⟩
    | panic ch => exact hp.elim
    | outgrown => exact hp.elim
  · rintro e W2 ⟨⟨v, rfl⟩, (⟨hi, hl, hk⟩ | ⟨pre, hpre, c, hi, hl, hk⟩)⟩
    · have hr := run_endLoop (P := P) hl (by rw [hrec]; simp)
      rw [hrec] at hr
      refine ⟨none, _, hr, hdone E _ hE (hI _ _ _ hi ((Fr.refl W2).putObj _ (fun _ => .inr (.inr (by omega))) _)) ((World.putObj_heap_other (by omega)).trans hk)⟩
    · have hr := run_endLoop (P := P) hl (by rw [hrec]; simp)
      rw [hrec] at hr
      refine ⟨some c, _, hr, hstop E c pre _ hE hpre (hIx c _ _ _ hi ((Fr.refl W2).putObj _ (fun _ => .inr (.inr (by omega))) _)) ((World.putObj_heap_other (by omega)).trans hk)⟩
end Go.Q

namespace Go.Q
open Go Go.RowKit
def byteInts (l : List UInt8) : List Int := l.map (fun x => (x.toNat : Int))
def idx (n : Nat) : Value → Nat
  | .int _ k => n - k.toNat
  | _ => 0
end Go.Q
namespace Go.Proofs.YtacekpdjapgfcaaGreatDoor
open Go Go.RowKit Go.Q
attribute [local go_sem] Oper.semAt_some
theorem wrap64_next {m r n : Nat} (h : m + (r + 1) = n) (hn : n ≤ maxLen) : wrap64 ((m : Int) + 1) = (m : Int) + 1 := by
  have e : maxLen = 9223372036854775807 := rfl
  rw [e] at hn
  clear e
  unfold wrap64
  omega
theorem idx_next {m r n : Nat} (h : m + (r + 1) = n) : idx n (.int .i64 ((m : Int) + 1)) < idx n (.int .i64 (m : Int)) := by
  simp only [idx]
  omega
theorem wrap64_byte (y : UInt8) : wrap64 (y.toNat : Int) = (y.toNat : Int) := by
  have := y.toNat_lt
  unfold wrap64
  omega
set_option maxRecDepth 100000 in
set_option maxHeartbeats 1000000 in
theorem single1_iter (v : Value) (l : List UInt8) (cb base : Nat) (w : World) (hc : w.cell? ⟨cb, 0, none⟩ = some v) (hv : Bytes w v l) (hoff : Off v l.length (fun k => base ≤ k)) :
    Iter Tryz.prog 284 #[pt cb] (byteInts l) cb base w := by
  intro lp J Jx W hW hJ hJx hY h0
  obtain ⟨a, cap, rfl, hcap, hmax, hx⟩ := Vals.form hv
  have HX := Lib.hid hx
  have hc1 := hW.cell hc (fun h => h)
  refine callsIn_of_wp Tryz.func284 rfl trivial ?_ rfl
  simp only [Tryz.ntmps284, List.size_toArray, List.length_cons, List.length_nil, Nat.reduceAdd, Nat.reduceSub, Array.replicate_succ, Array.replicate_zero, List.push_toArray, List.append_toArray, List.nil_append, List.cons_append]
  gi_wp2
  gi_loopw [7] (fun i wr => ∃ (pre rest : List Int), i = .int .i64 pre.length ∧ byteInts l = pre ++ rest ∧ Fr (fun k => base ≤ k ∧ k ≠ cb) W wr ∧ J pre wr) (fun i _ => idx l.length i)
  case atStart => exact ⟨[], byteInts l, rfl, rfl, Fr.refl _, h0⟩
  case round =>
    obtain ⟨pre, rest, rfl, hxs, F, hj⟩ := hrel
    have hlen : pre.length + rest.length = l.length := by
      have := congrArg List.length hxs
      simp only [byteInts, List.length_map, List.length_append] at this
      omega
    cases rest with
    | nil =>
      have q1 : ¬ (pre.length : Int) < (l.length : Int) := by simp only [List.length_nil] at hlen; omega
      gi_wp2
      go_end0
      exact ⟨⟨_, rfl⟩, .inl hj⟩
    | cons x rest =>
      simp only [List.length_cons] at hlen
      obtain ⟨y, hy, rfl⟩ : ∃ y : UInt8, l[pre.length]? = some y ∧ x = (y.toNat : Int) := by
        have h : (byteInts l)[pre.length]? = some x := by rw [hxs, List.getElem?_append_right (Nat.le_refl _), Nat.sub_self]; rfl
        unfold byteInts at h
        rw [List.getElem?_map] at h
        cases hq : l[pre.length]? with
        | none => rw [hq] at h; cases h
        | some y => rw [hq] at h; simp only [Option.map_some, Option.some.injEq] at h; exact ⟨y, rfl, h.symm⟩
      obtain ⟨b, o, rfl, hcell⟩ := HX.out (by omega)
      have hb : ¬ base ≤ b := hoff (by omega) b rfl
      have e1 := F.cell (hW.cell (hcell _ y hy) (fun h => h)) (fun h => hb h.1)
      have q1 : (pre.length : Int) < (l.length : Int) := by omega
      have q2 : (0 : Int) ≤ (pre.length : Int) := by omega
      have q4 : wrap64 ((pre.length : Int) + 1) = (pre.length : Int) + 1 := wrap64_next hlen (Nat.le_trans hcap hmax)
      have q3 : wrap64 (y.toNat : Int) = (y.toNat : Int) := wrap64_byte y
      obtain ⟨fn, tmps, assign, body, hyy, hR⟩ := hY pre _ rest wr hxs hj
      clear hx hcell
      gi_wp2
      refine hR.mono ?_
      rintro e W3 (⟨rfl, hJ3, F3⟩ | ⟨rfl, hJx3⟩)
      · gi_wp2
        go_roundw
        case rel => exact ⟨pre ++ [(y.toNat : Int)], rest, by rw [q4]; simp, by simp [hxs], F.trans F3, hJ3⟩
        case measure => rw [q4]; exact idx_next hlen
      · gi_wp2
        refine bodyPost_ret (results_none rfl _ _ _) rfl ?_
        exact ⟨⟨_, rfl⟩, .inr ⟨_, ⟨rest, by simp [hxs]⟩, hJx3⟩⟩
end Go.Proofs.YtacekpdjapgfcaaGreatDoor

namespace Go.Q
open Go Go.RowKit
def cellLen (w : World) (cb : Nat) : Nat :=
  match w.cell? ⟨cb, 0, none⟩ with
  | some (.slice _ n _) => n
  | _ => 0
theorem cellLen_of {w : World} {cb : Nat} {t : TypeId} {a : Option Addr} {n c : Nat} (B : Blk w cb t #[.slice a n c]) : cellLen w cb = n := by
  have := B.cell 0
  simp at this
  unfold cellLen
  rw [this]
theorem slice_on {W : World} {cb base b o cap n : Nat} {ty : TypeId} {u0 : Value} {r : List UInt8} (B : Blk W cb ty #[u0]) (hr : Bytes W (.slice (some ⟨b, o, none⟩) n cap) r) (hb : ¬ base ≤ b) (hcb : base ≤ cb) (k m c' : Nat) (a' : Option Addr) (hm : m + k = n)
    (ha : 0 < m → a' = some ⟨b, o + k, none⟩) (hc : m ≤ c') (hmax : c' ≤ maxLen) :
    Blk (W.setCell ⟨cb, 0, none⟩ (.slice a' m c')) cb ty #[.slice a' m c'] ∧ Bytes (W.setCell ⟨cb, 0, none⟩ (.slice a' m c')) (.slice a' m c') (r.drop k) ∧ Off (.slice a' m c') m (fun k => base ≤ k) ∧ Fr (fun k => k = cb) W (W.setCell ⟨cb, 0, none⟩ (.slice a' m c')) := by
  have f : Fr (fun k => k = cb) W (W.setCell ⟨cb, 0, none⟩ (.slice a' m c')) := Fr.setCell (S := fun k => k = cb) (p := ⟨cb, 0, none⟩) (Fr.refl W) (fun _ => rfl) _
  have hoff : Off (.slice a' m c') m (fun k => base ≤ k) := fun h0 j hj => by
    rw [ha h0] at hj
    simp only [Value.ownBlock, Option.some.injEq] at hj
    omega
  have hlen : r.length = n := by
    obtain ⟨a, c, he, _⟩ := hr.form
    simp only [Value.slice.injEq] at he
    exact he.2.1.symm
  have hs : Bytes W (.slice a' m c') (r.drop k) := by
    have h := Vals.sub hr k n (by omega) (Nat.le_refl _) a' c' (fun h b0 o0 e => by
      simp only [Option.some.injEq, Addr.mk.injEq, and_true] at e
      obtain ⟨rfl, rfl⟩ := e
      exact ha (by omega)) (by omega) hmax
    rw [Go.Proofs.YtacekpdjapgfcaaGreatDoor.byteCells_drop, Go.Proofs.YtacekpdjapgfcaaGreatDoor.byteCells_take, show n - k = m from by omega, List.take_of_length_le (by rw [List.length_drop]; omega)] at h
    exact h
  have hrl : (r.drop k).length = m := by rw [List.length_drop]; omega
  refine ⟨?_, hs.fr f (fun h0 j hj e => ?_), hoff, f⟩
  · have := B.set 0 (.slice a' m c')
    simpa using this
  · rw [byteCells_len, hrl] at h0
    exact hoff h0 j hj (by omega)
end Go.Q
namespace Go.Proofs.YtacekpdjapgfcaaGreatDoor
open Go Go.RowKit Go.Q
attribute [local go_sem] Oper.semAt_some
theorem pair_facts (x y : UInt8) : IntKind.i64.wrap (x.toNat : Int) = (x.toNat : Int) ∧ IntKind.i64.wrap (y.toNat : Int) = (y.toNat : Int) ∧ IntKind.i64.wrap ((x.toNat : Int) * 256) = (x.toNat : Int) * 256 ∧ bits .or .i64 ((x.toNat : Int) * 256) (y.toNat : Int) = ((x.toNat * 256 + y.toNat : Nat) : Int) := by
  have hx := x.toNat_lt
  have hy := y.toNat_lt
  generalize x.toNat = X at *
  generalize y.toNat = Y at *
  refine ⟨by simp [IntKind.wrap, IntKind.signed, IntKind.bits]; omega, by simp [IntKind.wrap, IntKind.signed, IntKind.bits]; omega, by simp [IntKind.wrap, IntKind.signed, IntKind.bits]; omega, ?_⟩
  exact or8 X Y (by omega) (by omega)
set_option maxRecDepth 100000 in
set_option maxHeartbeats 1000000 in
theorem pairs1_iter (v : Value) (l : List UInt8) (cb base : Nat) (w : World) (hc : Blk w cb 23 #[v]) (hv : Bytes w v l) (hoff : Off v l.length (fun k => base ≤ k)) (hcb : base ≤ cb) :
    Iter Tryz.prog 283 #[pt cb] (pairsS l) cb base w := by
  intro lp J Jx W hW hJ hJx hY h0
  have BW := hc.fr hW (fun h => h)
  have hv1 := hv.old hW
  refine callsIn_of_wp Tryz.func283 rfl trivial ?_ rfl
  simp only [Tryz.ntmps283, List.size_toArray, List.length_cons, List.length_nil, Nat.reduceAdd, Nat.reduceSub, Array.replicate_succ, Array.replicate_zero, List.push_toArray, List.append_toArray, List.nil_append, List.cons_append]
  gi_wp2
  gi_loopw [3] (fun _ wr => ∃ (pre : List Int) (r : List UInt8) (u : Value), pairsS l = pre ++ pairsS r ∧ Blk wr cb 23 #[u] ∧ Bytes wr u r ∧ Off u r.length (fun k => base ≤ k) ∧ J pre wr) (fun _ wr => cellLen wr cb)
  case atStart => exact ⟨[], l, v, rfl, BW, hv1, hoff, h0⟩
  case round =>
    obtain ⟨pre, r, u, hxs, B, hr, ho, hj⟩ := hrel
    rcases r with _ | ⟨x, _ | ⟨y, t⟩⟩
    · obtain ⟨a, cap, rfl, hcap, hmax, hx⟩ := Vals.form hr
      have e0 := B.cell 0
      simp at e0
      simp only [List.length_nil, pairsS, List.append_nil] at *
      gi_wp2
      go_end0
      exact ⟨⟨_, rfl⟩, .inl (by rw [hxs]; exact hj)⟩
    · obtain ⟨a, cap, rfl, hcap, hmax, hx⟩ := Vals.form hr
      have e0 := B.cell 0
      simp at e0
      simp only [List.length_cons, List.length_nil, pairsS, Nat.zero_add] at *
      obtain ⟨fn, tmps, assign, body, hyy, hR⟩ := hY pre _ [] wr hxs hj
      gi_wp2
      refine hR.mono ?_
      rintro e W3 (⟨rfl, hJ3, F3⟩ | ⟨rfl, hJx3⟩)
      · gi_wp2
        go_end0
        exact ⟨⟨_, rfl⟩, .inl (by rw [hxs]; exact hJ3)⟩
      · gi_wp2
        go_end0
        exact ⟨⟨_, rfl⟩, .inr ⟨_, ⟨[], by simp [hxs]⟩, hJx3⟩⟩
    · obtain ⟨a, cap, rfl, hcap, hmax, hx⟩ := Vals.form hr
      have e0 := B.cell 0
      have f0 := B.frozen 0
      simp at e0
      simp only [List.length_cons, pairsS] at *
      obtain ⟨b, o, rfl, hcell⟩ := hx (by omega)
      have c0 := hcell 0 x rfl
      have c1 := hcell 1 y rfl
      rw [Nat.add_zero] at c0
      have q1 : (1 : Int) < ((t.length + 1 + 1 : Nat) : Int) := by omega
      have q2 : (0 : Int) < ((t.length + 1 + 1 : Nat) : Int) := by omega
      obtain ⟨fn, tmps, assign, body, hyy, hR⟩ := hY pre _ _ wr.drew hxs (hJ _ _ _ hj (Fr.refl wr).drew)
      rw [show ((x.toNat * 256 + y.toNat : Nat) : Int) = (x.toNat : Int) * 256 + (y.toNat : Int) from by omega] at hyy
      have hR2 := hR.mono (R' := fun e W' => ∃ z : Bool, e = .returned (.bool z) ∧ (z = true ∧ J (pre ++ [((x.toNat * 256 + y.toNat : Nat) : Int)]) W' ∧ Fr (fun k => base ≤ k ∧ k ≠ cb) wr.drew W' ∨ z = false ∧ Jx (pre ++ [((x.toNat * 256 + y.toNat : Nat) : Int)]) W')) (by
        rintro e W' (⟨h1, h2⟩ | ⟨h1, h2⟩)
        · exact ⟨true, h1, .inl ⟨rfl, h2⟩⟩
        · exact ⟨false, h1, .inr ⟨rfl, h2⟩⟩)
      have HR2 := Lib.hid hR2
      obtain ⟨q3, q4, q5, q6⟩ := pair_facts x y
      clear hR hR2
      have hmx : Tryz.prog.follows .mixedOrders = true := by kernel_rfl
      gi_wp2
      gi_region_with_o (refine HR2.out.mono ?_; rintro e W3 ⟨z, rfl, hz⟩)
      all_goals
        rcases hz with ⟨rfl, hJ3, F3⟩ | ⟨rfl, hJx3⟩
        · have B3 := B.drew.fr F3 (fun h => h.2 rfl)
          have e3 := B3.cell 0
          have f3 := B3.frozen 0
          simp at e3
          have hb : ¬ base ≤ b := ho (by omega) b rfl
          have hr3 : Bytes W3 (.slice (some ⟨b, o, none⟩) (t.length + 1 + 1) cap) (x :: y :: t) := (hr.old (Fr.refl wr).drew).fr F3 (fun h0 k hk hs => by
            simp only [Value.ownBlock, Option.some.injEq] at hk
            subst hk
            exact hb hs.1)
          have HJ3 := Lib.hid hJ3
          have z1 : (2 : Int) ≤ ((t.length + 1 + 1 : Nat) : Int) := by omega
          clear hyy hJ3 hx hcell
          gi_wp2
          obtain ⟨B4, hr4, ho4, F4⟩ := slice_on B3 hr3 hb hcb 2 t.length (cap - 2) (if cap = 2 then some ⟨b, o, none⟩ else some ⟨b, o + 2, none⟩) rfl (fun h => if_neg (by omega)) (by omega) (by omega)
          go_roundw
          case rel => exact ⟨pre ++ [((x.toNat * 256 + y.toNat : Nat) : Int)], t, _, by simp [hxs], B4, hr4, ho4, hJ _ _ _ HJ3.out F4⟩
          case measure =>
            rw [cellLen_of B4, cellLen_of B]
            omega
        · gi_wp2
          refine bodyPost_ret (results_none rfl _ _ _) rfl ?_
          exact ⟨⟨_, rfl⟩, .inr ⟨_, ⟨pairsS t, by simp [hxs]⟩, hJx3⟩⟩
end Go.Proofs.YtacekpdjapgfcaaGreatDoor

namespace Go.Proofs
open Go.Shelf
def Tryz.lays7x32_ren : Go.Shelf.Ren := ⟨fun | 32 => 282 | 49 => 311 | n => n, fun | 30 => 23 | 21 => 21 | 3 => 3 | 0 => 0 | 5 => 5 | 4 => 4 | 33 => 327 | 66 => 353 | 25 => 243 | 69 => 356 | 68 => 355 | n => n, fun | 2 => 4 | 3 => 5 | n => n⟩
theorem Tryz.lays7x32 : Go.Proofs.Lays7.n32 Tryz.prog Tryz.lays7x32_ren := {
  mixed := by kernel_rfl
  f32 := Tryz.func282.trans (congrArg some (by kernel_rfl))
  f49 := Tryz.func311.trans (congrArg some (by kernel_rfl))
  t0 := Tryz.underlying0
  a0 := Tryz.isAgg0
  z0 := Tryz.sizeOf0
  v0 := Tryz.zeroValue0
  i0 := by kernel_rfl
  t3 := Tryz.underlying3
  a3 := Tryz.isAgg3
  z3 := Tryz.sizeOf3
  v3 := Tryz.zeroValue3
  i3 := by kernel_rfl
  t4 := Tryz.underlying4
  a4 := Tryz.isAgg4
  z4 := Tryz.sizeOf4
  v4 := Tryz.zeroValue4
  i4 := by kernel_rfl
  t5 := Tryz.underlying5
  a5 := Tryz.isAgg5
  z5 := Tryz.sizeOf5
  v5 := Tryz.zeroValue5
  i5 := by kernel_rfl
  t21 := Tryz.underlying21
  a21 := Tryz.isAgg21
  z21 := Tryz.sizeOf21
  v21 := Tryz.zeroValue21
  i21 := by kernel_rfl
  t25 := Tryz.underlying243
  a25 := Tryz.isAgg243
  z25 := Tryz.sizeOf243
  v25 := Tryz.zeroValue243
  i25 := by kernel_rfl
  t30 := Tryz.underlying23
  a30 := Tryz.isAgg23
  z30 := Tryz.sizeOf23
  v30 := Tryz.zeroValue23
  i30 := by kernel_rfl
  t33 := Tryz.underlying327
  a33 := Tryz.isAgg327
  z33 := Tryz.sizeOf327
  v33 := Tryz.zeroValue327
  i33 := by kernel_rfl
  t66 := Tryz.underlying353
  a66 := Tryz.isAgg353
  z66 := Tryz.sizeOf353
  t68 := Tryz.underlying355
  a68 := Tryz.isAgg355
  z68 := Tryz.sizeOf355
  v68 := Tryz.zeroValue355
  i68 := by kernel_rfl
  t69 := Tryz.underlying356
  a69 := Tryz.isAgg356
  z69 := Tryz.sizeOf356
  v69 := Tryz.zeroValue356
  i69 := by kernel_rfl
  g2 := by kernel_rfl
  g3 := by kernel_rfl }
open Go.RowKit Go.Lib in
theorem Tryz.utf8_DecodeRune (s : ByteArray) (b off cap : Nat) (w : World) (hT : Lib.Utf8Tabs 4 5 w) (hp : ∀ j, j < s.size → w.cell? ⟨b, off + j, none⟩ = some (.int .u8 (s.get! j).toNat)) :
    Calls Tryz.prog 282 #[.slice (some ⟨b, off, none⟩) s.size cap] w fun e w' => e = .returned (.tuple #[.int .i32 (Lib.decodeGo s).1, .int .i64 (Lib.decodeGo s).2]) ∧ Below w.heap.size w w' := Any7.utf8_DecodeRune Tryz.lays7x32 s b off cap w hT hp
end Go.Proofs

namespace Go.Q
open Go Go.RowKit
abbrev Tabs (w : World) : Prop := Lib.Utf8Tabs 4 5 w
theorem Tabs.fr {S : Nat → Prop} {w w' : World} (h : Tabs w) (f : Fr S w w') (h1 : ¬ S 4) (h2 : ¬ S 5) : Tabs w' :=
  ⟨fun c hc => f.cell (h.1 c hc) h1, fun i hi => ⟨f.cell (h.2 i hi).1 h2, f.cell (h.2 i hi).2 h2⟩⟩
theorem Tabs.old {w w' : World} (h : Tabs w) (f : Fr (fun _ => False) w w') : Tabs w' := h.fr f (fun h => h) (fun h => h)
theorem Tabs.size {w : World} (h : Tabs w) : 5 < w.heap.size := World.block_lt_of_cell? w _ (h.2 0 (by omega)).1
theorem bytes_get (l : List UInt8) (i : Nat) : (ByteArray.mk l.toArray).get! i = l.getD i 0 := by
  show (l.toArray)[i]! = l.getD i 0
  rw [List.getElem!_toArray, List.getElem!_eq_getElem?_getD, List.getD_eq_getElem?_getD]
  rfl
theorem decodeGo_list {l : List UInt8} (h : l ≠ []) : Lib.decodeGo ⟨l.toArray⟩ = decS l := by
  have hs : (ByteArray.mk l.toArray).size = l.length := by simp [ByteArray.size]
  have h0 : l.length ≠ 0 := fun e => h (List.length_eq_zero_iff.1 e)
  unfold Lib.decodeGo decS
  rw [hs, if_neg h0, Lib.decode_at, hs, bytes_get, bytes_get, bytes_get, bytes_get]
  rfl
set_option maxRecDepth 100000 in
theorem decN_bound (n b0 b1 b2 b3 : Nat) (hn : 1 ≤ n) : 1 ≤ (Lib.decodeN n b0 b1 b2 b3).2 ∧ (Lib.decodeN n b0 b1 b2 b3).2 ≤ n ∧ (Lib.decodeN n b0 b1 b2 b3).1 < 2147483648 := by
  unfold Lib.decodeN
  repeat' split
  all_goals (simp only; omega)
theorem decS_bound {l : List UInt8} (h : l ≠ []) : 1 ≤ (decS l).2 ∧ (decS l).2 ≤ l.length ∧ (decS l).1 < 2147483648 := by
  have h0 : l.length ≠ 0 := fun e => h (List.length_eq_zero_iff.1 e)
  exact decN_bound _ _ _ _ _ (by omega)
end Go.Q
namespace Go.Proofs.YtacekpdjapgfcaaGreatDoor
open Go Go.RowKit Go.Q
theorem decode_any (v : Value) (l : List UInt8) (w : World) (hv : Bytes w v l) (h : l ≠ []) (hT : Tabs w) :
    Calls Tryz.prog 282 #[v] w fun e w' => e = .returned (.tuple #[.int .i32 (decS l).1, .int .i64 (decS l).2]) ∧ Fr (fun _ => False) w w' := by
  have h0 : l.length ≠ 0 := fun e => h (List.length_eq_zero_iff.1 e)
  obtain ⟨a, cap, rfl, _, _, hx⟩ := hv.form
  obtain ⟨b, o, rfl, hc⟩ := hx (by omega)
  have hs : (ByteArray.mk l.toArray).size = l.length := by simp [ByteArray.size]
  have H := Go.Proofs.Tryz.utf8_DecodeRune ⟨l.toArray⟩ b o cap w hT (fun j hj => by
    rw [hs] at hj
    rw [bytes_get, List.getD_eq_getElem?_getD, List.getElem?_eq_getElem hj]
    exact hc j _ (List.getElem?_eq_getElem hj))
  rw [decodeGo_list h, hs] at H
  refine H.mono ?_
  rintro e w' ⟨rfl, hb⟩
  exact ⟨rfl, Fr.of_below hb⟩
end Go.Proofs.YtacekpdjapgfcaaGreatDoor

namespace Go.Q
open Go Go.RowKit
def signAt (l : List UInt8) : Int := if (decS l).1 = 65533 ∧ (decS l).2 ≤ 1 then -1 else ((decS l).1 : Int)
theorem wideS_cons (f : Nat) (x : UInt8) (t : List UInt8) : wideS (f + 1) (x :: t) = signAt (x :: t) :: wideS f ((x :: t).drop (decS (x :: t)).2) := rfl
end Go.Q
namespace Go.Proofs.YtacekpdjapgfcaaGreatDoor
open Go Go.RowKit Go.Q
attribute [local go_sem] Oper.semAt_some
set_option maxRecDepth 100000 in
set_option maxHeartbeats 1000000 in
theorem wide1_iter (v : Value) (l : List UInt8) (cb base : Nat) (w : World) (hc : Blk w cb 23 #[v]) (hv : Bytes w v l) (hoff : Off v l.length (fun k => base ≤ k)) (hcb : base ≤ cb) (hT : Tabs w) (h2 : 5 < base) :
    Iter Tryz.prog 281 #[pt cb] (wideS l.length l) cb base w := by
  intro lp J Jx W hW hJ hJx hY h0
  have BW := hc.fr hW (fun h => h)
  have hv1 := hv.old hW
  have hT1 := hT.old hW
  refine callsIn_of_wp Tryz.func281 rfl trivial ?_ rfl
  simp only [Tryz.ntmps281, List.size_toArray, List.length_cons, List.length_nil, Nat.reduceAdd, Nat.reduceSub, Array.replicate_succ, Array.replicate_zero, List.push_toArray, List.append_toArray, List.nil_append, List.cons_append]
  gi_wp2
  gi_loopw [6] (fun _ wr => ∃ (pre : List Int) (r : List UInt8) (u : Value) (f : Nat), wideS l.length l = pre ++ wideS f r ∧ r.length ≤ f ∧ Blk wr cb 23 #[u] ∧ Bytes wr u r ∧ Off u r.length (fun k => base ≤ k) ∧ Tabs wr ∧ J pre wr) (fun _ wr => cellLen wr cb)
  case atStart => exact ⟨[], l, v, l.length, rfl, Nat.le_refl _, BW, hv1, hoff, hT1, h0⟩
  case round =>
    obtain ⟨pre, r, u, f, hxs, hf, B, hr, ho, hTr, hj⟩ := hrel
    rcases r with _ | ⟨x, t⟩
    · obtain ⟨a, cap, rfl, hcap, hmax, hx⟩ := Vals.form hr
      have e0 := B.cell 0
      simp at e0
      simp only [List.length_nil] at *
      have hxn : wideS l.length l = pre := by rw [hxs]; cases f <;> simp [wideS]
      gi_wp2
      go_end0
      exact ⟨⟨_, rfl⟩, .inl (by rw [hxn]; exact hj)⟩
    · obtain ⟨f, rfl⟩ : ∃ g, f = g + 1 := ⟨f - 1, by simp only [List.length_cons] at hf; omega⟩
      rw [wideS_cons] at hxs
      obtain ⟨b1, b2, b3⟩ := decS_bound (l := x :: t) (by simp)
      have HD := Lib.hid (decode_any u (x :: t) wr hr (by simp) hTr)
      obtain ⟨a, cap, rfl, hcap, hmax, hx⟩ := Vals.form hr
      obtain ⟨b, o, rfl, hcell⟩ := hx (by simp)
      obtain ⟨k, hk⟩ : ∃ k, k = (decS (x :: t)).2 := ⟨_, rfl⟩
      obtain ⟨R, hR⟩ : ∃ R, R = (decS (x :: t)).1 := ⟨_, rfl⟩
      have hsg : signAt (x :: t) = if R = 65533 ∧ k ≤ 1 then -1 else (R : Int) := by rw [hk, hR]; rfl
      obtain ⟨n, hn⟩ : ∃ n, n = (x :: t).length := ⟨_, rfl⟩
      obtain ⟨r, hr0⟩ : ∃ r, r = x :: t := ⟨_, rfl⟩
      rw [← hk] at hxs b1 b2 HD
      rw [← hR] at b3 HD
      rw [← hn] at hf hcap B hr ho hx b2 HD
      rw [← hr0] at hxs hr hn hsg
      have e0 := B.cell 0
      simp at e0
      have hn0 : 0 < n := by rw [hn, hr0]; simp
      have q1 : (0 : Int) < (n : Int) := by omega
      have hwr : wrap64 (R : Int) = (R : Int) := wrap_nat R (by omega)
      have hz1 : (k : Int) ≤ (n : Int) := by omega
      have hz2 : (0 : Int) ≤ (k : Int) := by omega
      have hz3 : k ≤ n := b2
      have hz4 : k ≤ cap := by omega
      have hz5 : (n : Int) ≤ (cap : Int) := by omega
      have HN := Lib.hid hn
      clear hr0 hk hR hx hcell hn
      have hcases : (R = 65533 ∧ k ≤ 1 ∧ signAt r = -1) ∨ (R = 65533 ∧ ¬ k ≤ 1 ∧ signAt r = 65533) ∨ (R ≠ 65533 ∧ signAt r = (R : Int)) := by
        by_cases h1 : R = 65533
        · by_cases h3 : k ≤ 1
          · exact .inl ⟨h1, h3, by rw [hsg, if_pos ⟨h1, h3⟩]⟩
          · exact .inr (.inl ⟨h1, h3, by rw [hsg, if_neg (fun h => h3 h.2), h1]; rfl⟩)
        · exact .inr (.inr ⟨h1, by rw [hsg, if_neg (fun h => h1 h.1)]⟩)
      have hb : ¬ base ≤ b := ho hn0 b rfl
      clear hsg
      rcases hcases with ⟨h1, h3, hs⟩ | ⟨h1, h3, hs⟩ | ⟨h1, hs⟩
      case' inl =>
        subst h1
        have q2 : (k : Int) ≤ 1 := by omega
      case' inr.inl =>
        subst h1
        have q2 : ¬ (k : Int) ≤ 1 := by omega
      case' inr.inr =>
        have q2 : ((R : Int) == 65533) = false := beq_eq_false_iff_ne.2 (by omega)
        have q3 : (R == 65533) = false := beq_eq_false_iff_ne.2 h1
      all_goals
        gi_wp2_with (refine ⟨trivial, ?_⟩; gi_at_call 282; refine (callsIn_wide.2 HD.out).mono ?_; rintro e w2 ⟨rfl, F2⟩; have B2 := B.fr F2 (fun h => h); have e2 := B2.cell 0; have f2 := B2.frozen 0; simp at e2; obtain ⟨fn, tmps, assign, body, hyy, hR⟩ := hY pre _ _ w2 hxs (hJ _ _ _ hj (F2.mono (fun _ _ h => h.elim))); rw [hs] at hyy)
        refine hR.mono ?_
        rintro e W3 (⟨rfl, hJ3, F3⟩ | ⟨rfl, hJx3⟩)
        · have B3 := B2.fr F3 (fun h => h.2 rfl)
          have e3 := B3.cell 0
          have f3 := B3.frozen 0
          simp at e3
          have hr3 : Bytes W3 (.slice (some ⟨b, o, none⟩) n cap) r := (hr.old F2).fr F3 (fun h0 k hk hs => by
            simp only [Value.ownBlock, Option.some.injEq] at hk
            subst hk
            exact hb hs.1)
          have hT3 := (hTr.old F2).fr F3 (fun h => by omega) (fun h => by omega)
          have HT3 := Lib.hid hT3
          have HJ3 := Lib.hid hJ3
          clear hyy hJ3 hT3
          gi_wp2
          obtain ⟨B4, hr4, ho4, F4⟩ := slice_on B3 hr3 hb hcb k (n - k) (cap - k) (if cap = k then some ⟨b, o, none⟩ else some ⟨b, o + k, none⟩) (by omega) (fun h => if_neg (by omega)) (by omega) (by omega)
          have hdl : (r.drop k).length = n - k := by rw [List.length_drop, ← HN.out]
          go_roundw
          case rel => exact ⟨pre ++ [signAt r], r.drop k, _, f, by rw [hxs]; simp, by rw [hdl]; omega, B4, hr4, by rw [hdl]; exact ho4, HT3.out.fr F4 (by omega) (by omega), hJ _ _ _ HJ3.out F4⟩
          case measure =>
            rw [cellLen_of B4, cellLen_of B]
            omega
        · gi_wp2
          refine bodyPost_ret (results_none rfl _ _ _) rfl ?_
          exact ⟨⟨_, rfl⟩, .inr ⟨_, ⟨wideS f (r.drop k), by simp [hxs]⟩, hJx3⟩⟩
end Go.Proofs.YtacekpdjapgfcaaGreatDoor

namespace Go.Proofs.YtacekpdjapgfcaaGreatDoor
open Go Go.RowKit Go.Q
attribute [local go_sem] Oper.semAt_some
def SigOut (w w' : World) (l : List Int) (base : Nat) (e : Ending) : Prop :=
  ∃ gf cb : Nat, e = .returned (.func (.func gf) #[] #[pt cb]) ∧ base ≤ cb ∧ w.heap.size ≤ cb ∧ cb < w'.heap.size ∧ (∀ args w, (callFunc gf args).run Tryz.prog w = .ok (.enter gf args) w) ∧ Iter Tryz.prog gf #[pt cb] l cb base w'
set_option maxRecDepth 20000 in
theorem signs_any (k : Int) (v : Value) (b : List UInt8) (w : World) (base : Nat) (hv : Bytes w v b) (hoff : Off v b.length (fun k => base ≤ k)) (hb : base ≤ w.heap.size) (hT : Tabs w) (h2 : 5 < base) :
    Calls Tryz.prog 200 #[.agg #[.int .i64 k, v]] w fun e w' => SigOut w w' (signsS k b) base e ∧ Fr (fun _ => False) w w' := by
  have F : Fr (fun _ => False) w ((w.alloc (.cells #[.int .i64 k, v] 172)).alloc (.cells #[v] 23)) := ((Fr.refl w).alloc _).alloc _
  have B := Blk.new (w.alloc (.cells #[.int .i64 k, v] 172)) 23 #[v]
  rw [World.size_alloc] at B
  have hv1 := hv.old F
  have hT1 := hT.old F
  have hcb : base ≤ w.heap.size + 1 := by omega
  have hlt : w.heap.size + 1 < ((w.alloc (.cells #[.int .i64 k, v] 172)).alloc (.cells #[v] 23)).heap.size := by simp
  obtain ⟨a, cap, rfl, -⟩ := hv.form
  have H12 := wide1_iter _ b _ base _ B hv1 hoff hcb hT1 h2
  have H30 := pairs1_iter _ b _ base _ B hv1 hoff hcb
  have h0 := B.cell 0
  simp only [List.getElem?_toArray, List.getElem?_cons_zero] at h0
  have H0 := single1_iter _ b _ base _ h0 hv1 hoff
  have HH12 := Lib.hid H12
  have HH30 := Lib.hid H30
  have HH0 := Lib.hid H0
  have HF := Lib.hid F
  have HLT := Lib.hid hlt
  clear H12 H30 H0 F hlt h0 B hv1 hv hoff hT1 hT
  have hk : k = 12 ∨ k = 30 ∨ (k ≠ 12 ∧ k ≠ 30) := by omega
  rcases hk with rfl | rfl | ⟨h12, h30⟩
  · go_enter Tryz.func200, Tryz.ntmps200
    go_wp2_with (first | (go_at_call 245; go_in))
    go_ret
    exact ⟨⟨281, w.heap.size + 1, rfl, hcb, Nat.le_succ _, HLT.out, enters_of Tryz.func281 (by kernel_rfl) rfl, HH12.out⟩, HF.out⟩
  · go_enter Tryz.func200, Tryz.ntmps200
    go_wp2_with (first | (go_at_call 246; go_in))
    go_ret
    exact ⟨⟨283, w.heap.size + 1, rfl, hcb, Nat.le_succ _, HLT.out, enters_of Tryz.func283 (by kernel_rfl) rfl, HH30.out⟩, HF.out⟩
  · have q1 : (k == 12) = false := beq_eq_false_iff_ne.2 h12
    have q2 : (k == 30) = false := beq_eq_false_iff_ne.2 h30
    have hs : signsS k b = byteInts b := by unfold signsS; rw [if_neg h12, if_neg h30]; rfl
    have HS := Lib.hid hs
    clear hs
    go_enter Tryz.func200, Tryz.ntmps200
    go_wp2_with (first | (go_at_call 247; go_in))
    go_ret
    exact ⟨⟨284, w.heap.size + 1, rfl, hcb, Nat.le_succ _, HLT.out, enters_of Tryz.func284 (by kernel_rfl) rfl, by rw [HS.out]; exact HH0.out⟩, HF.out⟩
end Go.Proofs.YtacekpdjapgfcaaGreatDoor

namespace Go.Proofs.YtacekpdjapgfcaaGreatDoor
open Go Go.RowKit Go.Q
attribute [local go_sem] Oper.semAt_some
set_option maxRecDepth 100000 in
set_option maxHeartbeats 2000000 in
theorem rightText_any (k : Int) (v : Value) (b : List UInt8) (w : World) (hv : Bytes w v b) (hT : Tabs w) :
    Calls Tryz.prog 195 #[.agg #[.int .i64 k, v]] w fun e w' => e = .returned (.bool (rightS k b)) ∧ Fr (fun _ => False) w w' := by
  obtain ⟨z, hz⟩ : ∃ z, z = w.heap.size := ⟨_, rfl⟩
  have h2 : 5 < z := by rw [hz]; exact hT.size
  have hoff : Off v b.length (fun k => z ≤ k) := fun h0 j hj hk => by
    have := hv.lt (by rw [byteCells_len]; exact h0) j hj
    omega
  obtain ⟨a, cap, rfl, -⟩ := hv.form
  have F0 : Fr (fun _ => False) w ((w.alloc (.cells #[.int .i64 k, .slice a b.length cap] 172)).alloc (.cells #[.bool false] 4)) := ((Fr.refl w).alloc _).alloc _
  have BT := (Blk.new w 172 #[.int .i64 k, .slice a b.length cap]).alloc (.cells #[.bool false] 4)
  have BR := Blk.new (w.alloc (.cells #[.int .i64 k, .slice a b.length cap] 172)) 4 #[.bool false]
  rw [World.size_alloc, ← hz] at BR
  rw [← hz] at BT
  have hv0 := hv.old F0
  have hT0 := hT.old F0
  have hs0 := F0.size
  have HF0 := Lib.hid F0
  have HZ := Lib.hid hz
  refine (callsIn_wide (n := 3)).1 ?_
  refine callsIn_of_wp_marks Tryz.func195 rfl trivial ?_ rfl
  simp only [Tryz.ntmps195, List.size_toArray, List.length_cons, List.length_nil, Nat.reduceAdd, Nat.reduceSub, Array.replicate_succ, Array.replicate_zero, List.push_toArray, List.append_toArray, List.nil_append, List.cons_append]
  gi_upto_region 1 with fail
  rw [← HZ.out]
  obtain ⟨w1, hw1⟩ : ∃ w1, w1 = ((w.alloc (.cells #[.int .i64 k, .slice a b.length cap] 172)).alloc (.cells #[.bool false] 4)) := ⟨_, rfl⟩
  rw [← hw1] at HF0 BT BR hv0 hT0 hs0 ⊢
  rw [← hz] at hs0
  clear hw1 F0 hv hT hz
  have z0 := BT.cell 0
  simp at z0
  cases hk : Go.Q.kindOk k with
  | false =>
    have hr : rightS k b = false := by unfold rightS; rw [hk]; rfl
    have HR := Lib.hid hr
    have HK := Lib.hid (known_any k w1)
    rw [hk] at HK
    clear hr hk
    gi_wp2_with (refine ⟨trivial, ?_⟩; gi_at_call 201; refine (callsIn_wide.2 HK.out).mono ?_; rintro e w2 ⟨rfl, F2⟩; have BR2 := BR.fr F2 (fun h => h); have r0 := BR2.cell 0; have f0 := BR2.frozen 0; simp at r0)
    have F4 : Fr (fun k => k = z + 1) w2 (w2.setCell ⟨z + 1, 0, none⟩ (.bool false)) := Fr.setCell (S := fun k => k = z + 1) (p := ⟨z + 1, 0, none⟩) (Fr.refl w2) (fun _ => rfl) _
    have r1 := (BR2.set 0 (.bool false)).cell 0
    simp at r1
    exact ⟨.bool false, by simp [results, Tryz.results195, go_sem, r1], by rw [HR.out], (HF0.out.trans F2).trans' F4 (fun i hi e => absurd hi (by rw [← HZ.out]; omega))⟩
  | true =>
    have hr : rightS k b = (signsS k b).all (mayS k) := by unfold rightS; rw [hk, Bool.true_and]
    have HR := Lib.hid hr
    have HK := Lib.hid (known_any k w1)
    rw [hk] at HK
    obtain ⟨xs, hxs⟩ : ∃ xs, xs = signsS k b := ⟨_, rfl⟩
    rw [← hxs] at HR
    have HXS := Lib.hid hxs
    clear hr hk hxs
    gi_wp2_with (refine ⟨trivial, ?_⟩; gi_at_call 201; refine (callsIn_wide.2 HK.out).mono ?_; rintro e w2 ⟨rfl, F2⟩; have BT2 := BT.fr F2 (fun h => h); have BR2 := BR.fr F2 (fun h => h); have t0 := BT2.cell 0; have t1 := BT2.cell 1; simp at t0 t1; have HG := Lib.hid (signs_any k _ b w2 z (hv0.old F2) hoff (Nat.le_trans hs0 F2.size) (hT0.old F2) h2))
    refine ⟨trivial, (callsIn_wide.2 HG.out).mono ?_⟩
    rintro e w3 ⟨⟨gf, cb, rfl, hzc, hgc, hcl, heg, hit⟩, F3⟩
    rw [← HXS.out] at hit
    have lr2 := BR2.lt
    have BT3 := BT2.fr F3 (fun h => h)
    have BR3 := BR2.fr F3 (fun h => h)
    have HF3 := Lib.hid ((HF0.out.trans F2).trans F3)
    have lr3 := BR3.lt
    have HIT := Lib.hid hit
    clear HG HK hv0 hT0 BT BR BT2 BR2 F2 F3 t0 t1 z0 hit
    gi_wp2
    refine range_law (gf := gf) (lb := #[pt cb]) rfl heg hcl (Nat.le_of_lt (Nat.lt_of_lt_of_le (Nat.lt_succ_self z) (Nat.le_of_lt lr3))) HIT.out rfl
      (fun pre W => Blk W z 172 #[.int .i64 k, .slice a b.length cap] ∧ Blk W (z + 1) 4 #[.bool false] ∧ Fr (fun _ => False) w W ∧ ∀ n ∈ pre, mayS k n = true)
      (fun c pre W => c = .ret ∧ Blk W (z + 1) 4 #[.bool false] ∧ Fr (fun _ => False) w W ∧ ∃ n ∈ pre, mayS k n = false)
      (fun s A B h f => ⟨h.1.fr f (by omega), h.2.1.fr f (by omega), h.2.2.1.trans' f (fun i hi e => by have := HZ.out; omega), h.2.2.2⟩)
      (fun c s A B h f => ⟨h.1, h.2.1.fr f (by omega), h.2.2.1.trans' f (fun i hi e => by have := HZ.out; omega), h.2.2.2⟩)
      ⟨BT3, BR3, HF3.out, by simp⟩
      (fun x => { tmps := #[.agg #[.int .i64 k, .slice a b.length cap], .pointer (some ⟨z, 0, none⟩), .pointer (some ⟨z + 1, 0, none⟩), .int .i64 x, .pointer (some ⟨z, 0, none⟩), .int .i64 k, .bool true, .bool false, .agg #[.int .i64 k, .slice a b.length cap], .func (.func gf) #[] #[pt cb], .int .i64 x, undef, undef, undef, undef, undef], defers := [] }) ?assign ?body ?done ?stop
    case assign =>
      intro l x W K hK
      gi_wp2
      exact hK
    case body =>
      rintro l pre x rest W hx ⟨BT, BR, F, hall⟩ hE
      have t0 := BT.cell 0
      have r0 := BR.cell 0
      have f0 := BR.frozen 0
      simp at t0 r0
      obtain ⟨m, hm⟩ : ∃ m, m = mayS k x := ⟨_, rfl⟩
      have HM := Lib.hid hm
      have HY := Lib.hid (may_any k x W)
      rw [← hm] at HY
      clear hm HIT
      cases m with
      | false =>
        gi_wp2_with (refine ⟨trivial, ?_⟩; gi_at_call 202; refine (CallsIn.inRound l (callsIn_wide.2 HY.out)).mono ?_; rintro e W2 ⟨rfl, rfl⟩)
        have F4 : Fr (fun k => k = z + 1) W (W.setCell ⟨z + 1, 0, none⟩ (.bool false)) := Fr.setCell (S := fun k => k = z + 1) (p := ⟨z + 1, 0, none⟩) (Fr.refl W) (fun _ => rfl) _
        have B4 := BR.set 0 (.bool false)
        simp at B4
        exact ⟨F4.mono (fun k _ e => ⟨by omega, by omega, by omega, by omega⟩), rfl, B4, F.trans' F4 (fun i hi e => by have := HZ.out; omega), x, by simp, HM.out.symm⟩
      | true =>
        gi_wp2_with (refine ⟨trivial, ?_⟩; gi_at_call 202; refine (CallsIn.inRound l (callsIn_wide.2 HY.out)).mono ?_; rintro e W2 ⟨rfl, rfl⟩)
        refine ⟨Fr.refl W, BT, BR, F, fun n hn => ?_⟩
        rcases List.mem_append.1 hn with h | h
        · exact hall n h
        · rw [List.mem_singleton.1 h]; exact HM.out.symm
    case done =>
      rintro D W hD ⟨BT, BR, F, hall⟩ hK
      have hr : rightS k b = true := by rw [HR.out, List.all_eq_true]; exact hall
      have HRR := Lib.hid hr
      have r0 := BR.cell 0
      have f0 := BR.frozen 0
      simp at r0
      have F4 : Fr (fun k => k = z + 1) W (W.setCell ⟨z + 1, 0, none⟩ (.bool true)) := Fr.setCell (S := fun k => k = z + 1) (p := ⟨z + 1, 0, none⟩) (Fr.refl W) (fun _ => rfl) _
      have B4 := BR.set 0 (.bool true)
      simp at B4
      have hK4 := (F4.block D (Array.getElem?_eq_some_iff.1 hK).1 (by omega)).trans hK
      have F5 : Fr (fun k => k = D) (W.setCell ⟨z + 1, 0, none⟩ (.bool true)) ((W.setCell ⟨z + 1, 0, none⟩ (.bool true)).putObj D (.deferred none)) := Fr.putObj (S := fun k => k = D) (Fr.refl _) D (fun _ => rfl) _
      have r5 := (B4.fr F5 (by omega)).cell 0
      simp at r5
      clear hr HIT
      gi_wp2
      refine ⟨by simp, .inl ⟨_, _, rfl, run_takeDeferred hK4, ?_⟩⟩
      exact ⟨.bool true, by simp [results, Tryz.results195, go_sem, r5], by rw [HRR.out], (F.trans' F4 (fun i hi e => by have := HZ.out; omega)).trans' F5 (fun i hi e => by have := HZ.out; omega)⟩
    case stop =>
      rintro D c pre W hD hpre ⟨rfl, BR, F, n, hn, hm⟩ hK
      have hr : rightS k b = false := by rw [HR.out, List.all_eq_false]; exact ⟨n, hpre.subset hn, by rw [hm]; simp⟩
      have HRR := Lib.hid hr
      have r0 := BR.cell 0
      simp at r0
      have F5 : Fr (fun k => k = D) W (W.putObj D (.deferred none)) := Fr.putObj (S := fun k => k = D) (Fr.refl _) D (fun _ => rfl) _
      have r5 := (BR.fr F5 (by omega)).cell 0
      simp at r5
      clear hr HIT
      gi_wp2
      refine ⟨by simp, .inl ⟨_, _, rfl, run_takeDeferred hK, ?_⟩⟩
      exact ⟨.bool false, by simp [results, Tryz.results195, go_sem, r5], by rw [HRR.out], F.trans' F5 (fun i hi e => by have := HZ.out; omega)⟩
end Go.Proofs.YtacekpdjapgfcaaGreatDoor

namespace Go.Q
open Go Go.RowKit
theorem wpListIn_append_run {P : Program} {F : Fence} {n : Nat} {w : World} {ops : Array Oper} {rest : List Oper} {o : Oper} {a : Act} {Q : Exit → Act → World → Prop} (hgd : o.guard = none) (s x : Operand) (t : TypeId)
    (ho : o.op = .call { callee := .builtin .append, args := #[s, x], argTypes := #[t, t] }) (v' : Value) (w' : World)
    (hr : (Builtin.append_ #[t, t] o.type #[a.eval s, a.eval x]).run P w = .ok v' w') (h : wpListIn F n P ops Q rest (a.put o.dst v') w') : wpListIn F n P ops Q (o :: rest) a w := by
  refine wpListIn_plain hgd fun K hK => ?_
  unfold Oper.wpIn
  refine ⟨by simp [Oper.about, ho, resolve, Target.leads, Sem.run_pure], ?_⟩
  rw [Oper.semAt_plain F _ _ (by rw [ho]; intro c hc; cases hc)]
  simp [execOp, ho, resolve, invoke, builtin, hr, Result.andThen]
  exact hK _ _ h
theorem wideS_len : ∀ (f : Nat) (l : List UInt8), (wideS f l).length ≤ f
  | 0, [] => by simp [wideS]
  | 0, _ :: _ => by simp [wideS]
  | f + 1, [] => by simp [wideS]
  | f + 1, x :: t => by
    have := wideS_len f ((x :: t).drop (decS (x :: t)).2)
    simp only [wideS, List.length_cons]
    omega
theorem pairsS_len : ∀ l : List UInt8, (pairsS l).length ≤ l.length
  | [] => by simp [pairsS]
  | [_] => by simp [pairsS]
  | _ :: _ :: t => by
    have := pairsS_len t
    simp only [pairsS, List.length_cons]
    omega
theorem signsS_len (k : Int) (b : List UInt8) : (signsS k b).length ≤ b.length := by
  unfold signsS
  split
  · exact wideS_len _ _
  split
  · exact pairsS_len _
  · simp
end Go.Q
namespace Go.Proofs.YtacekpdjapgfcaaGreatDoor
open Go Go.RowKit Go.Q
attribute [local go_sem] Oper.semAt_some
set_option maxRecDepth 100000 in
set_option maxHeartbeats 2000000 in
theorem signsText_any (k : Int) (v : Value) (b : List UInt8) (w : World) (hv : Bytes w v b) (hT : Tabs w) (hbl : b.length ≤ 1099511627) (hok : rightS k b = true) :
    Calls Tryz.prog 158 #[.agg #[.int .i64 k, v]] w fun e w' => (∃ u, e = .returned (.tuple #[u, .int .i64 0]) ∧ w'.ownsRow w.heap.size 3 1 u (signsS k b).length (intCells (signsS k b))) ∧ Fr (fun _ => False) w w' := by
  obtain ⟨xs, hxs⟩ : ∃ xs, xs = signsS k b := ⟨_, rfl⟩
  have hxl : xs.length ≤ b.length := by rw [hxs]; exact signsS_len k b
  rw [← hxs]
  have HXS := Lib.hid hxs
  clear hxs
  obtain ⟨z, hz⟩ : ∃ z, z = w.heap.size := ⟨_, rfl⟩
  have h2 : 5 < z := by rw [hz]; exact hT.size
  have hoff : Off v b.length (fun k => z ≤ k) := fun h0 j hj hk => by
    have := hv.lt (by rw [byteCells_len]; exact h0) j hj
    omega
  obtain ⟨a, cap, rfl, -⟩ := hv.form
  have F0 : Fr (fun _ => False) w (w.alloc (.cells #[.int .i64 k, .slice a b.length cap] 172)) := (Fr.refl w).alloc _
  have BT := Blk.new w 172 #[.int .i64 k, .slice a b.length cap]
  rw [← hz] at BT
  have hv0 := hv.old F0
  have hT0 := hT.old F0
  have hs0 := F0.size
  have HF0 := Lib.hid F0
  have HZ := Lib.hid hz
  refine (callsIn_wide (n := 3)).1 ?_
  refine callsIn_of_wp_marks Tryz.func158 rfl trivial ?_ rfl
  simp only [Tryz.ntmps158, List.size_toArray, List.length_cons, List.length_nil, Nat.reduceAdd, Nat.reduceSub, Array.replicate_succ, Array.replicate_zero, List.push_toArray, List.append_toArray, List.nil_append, List.cons_append]
  gi_upto_region 1 with fail
  rw [← HZ.out]
  obtain ⟨w1, hw1⟩ : ∃ w1, w1 = w.alloc (.cells #[.int .i64 k, .slice a b.length cap] 172) := ⟨_, rfl⟩
  rw [← hw1] at HF0 BT hv0 hT0 hs0 ⊢
  rw [← hz] at hs0
  clear hw1 F0 hv hT hz
  have t0 := BT.cell 0
  have t1 := BT.cell 1
  simp at t0 t1
  have HK := Lib.hid (rightText_any k _ b w1 hv0 hT0)
  rw [hok] at HK
  clear hok
  gi_upto_region 4 with (refine ⟨trivial, ?_⟩; gi_at_call 195; refine (callsIn_wide.2 HK.out).mono ?_; rintro e w2 ⟨rfl, F2⟩; have BT2 := BT.fr F2 (fun h => h); have t0 := BT2.cell 0; have t1 := BT2.cell 1; simp at t0 t1)
  obtain ⟨g, hg⟩ : ∃ g, g = w2.heap.size := ⟨_, rfl⟩
  have F3 : Fr (fun _ => False) w2 (w2.alloc (.cells #[.slice none 0 0] 105)) := (Fr.refl w2).alloc _
  have BT3 := BT2.fr F3 (fun h => h)
  have BG3 := Blk.new w2 105 #[.slice none 0 0]
  have hs1 := F2.size
  have HSG := Lib.hid (signs_any k _ b _ z ((hv0.old F2).old F3) hoff (Nat.le_trans hs0 (F2.trans F3).size) ((hT0.old F2).old F3) h2)
  have HF3 := Lib.hid ((HF0.out.trans F2).trans F3)
  rw [← hg] at BG3 ⊢
  have hgz : z < g := by have := BT2.lt; omega
  have hgw := BG3.lt
  clear HK hv0 hT0 BT BT2 F2 F3 t0 t1 hg hs1
  generalize (w2.alloc (.cells #[.slice none 0 0] 105)) = w3 at *
  have t0 := BT3.cell 0
  have t1 := BT3.cell 1
  simp at t0 t1
  gi_wp2_with fail
  refine ⟨trivial, (callsIn_wide.2 HSG.out).mono ?_⟩
  rintro e w4 ⟨⟨gf, cb, rfl, hzc, hgc, hcl, heg, hit⟩, F4⟩
  rw [← HXS.out] at hit
  have BT4 := BT3.fr F4 (fun h => h)
  have BG4 := BG3.fr F4 (fun h => h)
  have HF4 := Lib.hid (HF3.out.trans F4)
  have lg4 := BG4.lt
  have HIT := Lib.hid hit
  clear HSG BT3 BG3 F4 t0 t1 hit HF3
  gi_wp2
  obtain ⟨E, hE0⟩ : ∃ E, E = w4.heap.size := ⟨_, rfl⟩
  have HE := Lib.hid hE0
  refine range_law (gf := gf) (lb := #[pt cb]) rfl heg hcl (base := z) (Nat.le_of_lt (Nat.lt_trans hgz lg4)) HIT.out rfl
    (fun pre W => ∃ u, Blk W g 105 #[u] ∧ W.ownsRow (E + 2) 3 1 u pre.length (intCells pre) ∧ Fr (fun _ => False) w W)
    (fun _ _ _ => False)
    (fun s A B h f => by
      obtain ⟨u, h1, h3, h4⟩ := h
      exact ⟨u, h1.fr f (by omega), ownsRow_fr h3 f (fun j hj e => by have := ((Vals.of_own h3).2 j hj).1; omega), h4.trans' f (fun i hi e => by have := HZ.out; omega)⟩)
    (fun c s A B h f => h)
    ⟨_, BG4, ⟨rfl, .inl ⟨rfl, rfl⟩⟩, HF4.out⟩
    (fun x => { tmps := #[.agg #[.int .i64 k, .slice a b.length cap], .pointer (some ⟨z, 0, none⟩), .slice none 0 0, .int .i64 0, .pointer (some ⟨g, 0, none⟩), .int .i64 x, .agg #[.int .i64 k, .slice a b.length cap], .bool true, .bool false, .agg #[.int .i64 k, .slice a b.length cap], .func (.func gf) #[] #[pt cb], .int .i64 x, undef, undef, undef, undef, undef], defers := [] }) ?assign ?body ?done ?stop
  case assign =>
    intro l x W K hK
    gi_wp2
    exact hK
  case body =>
    rintro l pre x rest W hx ⟨u, BG, hown, F⟩ hE
    have hpl : pre.length + (rest.length + 1) = xs.length := by rw [hx]; simp
    have hgW := BG.lt
    have BX := Blk.new W 3 #[.int .i64 x]
    have F1 : Fr (fun _ => False) W (W.alloc (.cells #[.int .i64 x] 3)) := (Fr.refl W).alloc _
    have hsrc : Ints (W.alloc (.cells #[.int .i64 x] 3)) (.slice (some ⟨W.heap.size, 0, none⟩) 1 1) [x] := Vals.of_block BX (by unfold maxLen; simp)
    obtain ⟨u', W2, hrun, hown2, F2, hb2⟩ := append_ints (ownsRow_fr hown F1 (fun _ _ h => h)) (some ⟨W.heap.size, 0, none⟩) 1 1 [x] hsrc (by omega) (by rw [HE.out]; have := F1.size; omega)
    obtain ⟨a', m', c', rfl, rfl⟩ := own_shape hown2
    have hug : ∀ j, u.ownBlock = some j → E + 2 ≤ j ∧ j < W.heap.size := (Vals.of_own hown).2
    have BG2 := (BG.fr F1 (fun h => h)).fr F2 (fun e => by have := (hug _ e).1; have := HE.out; omega)
    have hug2 : ∀ j, (Value.slice a' (pre.length + 1) c').ownBlock = some j → E + 2 ≤ j := fun j hj => ((Vals.of_own hown2).2 j hj).1
    have G2 : Fr (fun k => E + 2 ≤ k) W W2 := (F1.mono (fun _ _ h => h.elim)).trans (F2.mono (fun j _ e => (hug j e).1))
    have t0 := BG.cell 0
    have t2 := BG2.cell 0
    have f2 := BG2.frozen 0
    have hal := alloc_old
    simp at t0 t2
    have HRUN := Lib.hid hrun
    have HOWN2 := Lib.hid hown2
    have HUG2 := Lib.hid hug2
    clear hrun hown2 hug2 hug HIT hE0 BX hsrc F1 F2
    gi_wp2_with (gi_at_builtin; refine wpListIn_append_run (by rfl) (.tmp 12) (.tmp 14) 105 (by rfl) _ W2 (by exact HRUN.out) ?_)
    have F5 : Fr (fun k => k = g) W2 (W2.setCell ⟨g, 0, none⟩ (.slice a' (pre.length + 1) c')) := Fr.setCell (S := fun k => k = g) (p := ⟨g, 0, none⟩) (Fr.refl W2) (fun _ => rfl) _
    have B5 := BG2.set 0 (.slice a' (pre.length + 1) c')
    simp at B5
    have hEe := HE.out
    have hZe := HZ.out
    refine ⟨(G2.mono (fun j _ e => ⟨by omega, by omega, by omega, by omega⟩)).trans (F5.mono (fun j _ e => ⟨by omega, by omega, by omega, by omega⟩)), _, B5, ?_, (F.trans' G2 (fun i hi e => by omega)).trans' F5 (fun i hi e => by omega)⟩
    rw [List.length_append]
    exact ownsRow_fr HOWN2.out F5 (fun j hj e => by have := HUG2.out j hj; omega)
  case done =>
    rintro D W hD ⟨u, BG, hown, F⟩ hK
    have hEe := HE.out
    have F5 : Fr (fun k => k = D) W (W.putObj D (.deferred none)) := Fr.putObj (S := fun k => k = D) (Fr.refl _) D (fun _ => rfl) _
    have t0 := BG.cell 0
    simp at t0
    have hown5 := own_le (ownsRow_fr hown F5 (fun j hj e => by have := ((Vals.of_own hown).2 j hj).1; omega)) (base' := w.heap.size) (by have := HZ.out; omega)
    have HO5 := Lib.hid hown5
    have HF5 := Lib.hid (F.trans' F5 (fun i hi e => by have := HZ.out; omega))
    have HE2 := Lib.hid hEe
    clear hown hown5 HIT hE0 hEe F F5
    gi_wp2
    refine ⟨by simp, .inl ⟨_, _, rfl, run_takeDeferred hK, ?_⟩⟩
    exact ⟨.tuple #[u, .int .i64 0], by simp [results, Tryz.results158, go_sem], ⟨u, rfl, HO5.out⟩, HF5.out⟩
  case stop =>
    rintro D c pre W hD hpre h hK
    exact h.elim
end Go.Proofs.YtacekpdjapgfcaaGreatDoor

namespace Go.Q
open Go Go.RowKit
theorem enc_cells {n : Nat} (h : okSign n) : Lib.runeCells (n : Int) = Lib.byteCells (enc n) := by
  obtain ⟨h1, h2⟩ := h
  unfold Lib.runeCells enc Lib.byteCells
  split
  · rw [Lib.encodeRuneZ_one (by omega) (by omega)]
    simp only [List.map_cons, List.map_nil, u8 n (by omega)]
  split
  · rw [Lib.encodeRuneZ_two (by omega) (by omega)]
    simp only [List.map_cons, List.map_nil, u8 (192 + n / 64) (by omega), u8 (128 + n % 64) (by omega)]
    rfl
  split
  · rw [Lib.encodeRuneZ_three (by omega)]
    simp only [List.map_cons, List.map_nil, u8 (224 + n / 4096) (by omega), u8 (128 + n / 64 % 64) (by omega), u8 (128 + n % 64) (by omega)]
    rfl
  · rw [Lib.encodeRuneZ_four (by omega) (by omega)]
    simp only [List.map_cons, List.map_nil, u8 (240 + n / 262144) (by omega), u8 (128 + n / 4096 % 64) (by omega), u8 (128 + n / 64 % 64) (by omega), u8 (128 + n % 64) (by omega)]
    rfl
end Go.Q
namespace Go.Proofs.YtacekpdjapgfcaaGreatDoor
open Go Go.RowKit Go.Q
def PutOut (w w' : World) (base : Nat) (v : Value) (n : Nat) (xs l : List UInt8) (e : Ending) : Prop :=
  ∃ a c, e = .returned (.slice a (n + l.length) c) ∧ w'.ownsRow base 5 1 (.slice a (n + l.length) c) (n + l.length) (Lib.byteCells (xs ++ l)) ∧ Fr (fun k => v.ownBlock = some k) w w'
set_option maxRecDepth 20000 in
set_option maxHeartbeats 1000000 in
theorem putText_any {w : World} {base n : Nat} {v : Value} {xs : List UInt8} (k : Int) (m : Nat) (hown : w.ownsRow base 5 1 v n (Lib.byteCells xs)) (hm : mayS k m = true) (hk : Go.Q.kindOk k = true) (hn : n ≤ 1099511627776) (hb : base ≤ w.heap.size) :
    Calls Tryz.prog 203 #[v, .int .i64 k, .int .i64 m] w fun e w' => PutOut w w' base v n xs (putS1 k m) e := by
  have hk' : k = 12 ∨ k = 19 ∨ k = 20 ∨ k = 22 ∨ k = 26 ∨ k = 30 := by simpa [Go.Q.kindOk] using hk
  by_cases h12 : k = 12
  · subst h12
    have hs : okSign m := by
      simp [mayS, surr] at hm
      unfold okSign
      omega
    have hp : putS1 12 m = enc m := rfl
    rw [hp]
    have hw : IntKind.i32.wrap (m : Int) = (m : Int) := by unfold okSign at hs; simp [IntKind.wrap, IntKind.signed, IntKind.bits]; omega
    have H := Lib.hid (Go.Proofs.Tryz.utf8_AppendRune_plain base v n (Lib.byteCells xs) (m : Int) (by omega) (by unfold okSign at hs; omega) w hown (by omega) hb)
    have hl := byteCells_len (enc m)
    rw [enc_cells hs, ← byteCells_append, hl] at H
    clear hown hs hm hk hk' hp hl
    go_enter Tryz.func203, Tryz.ntmps203
    go_wp2_with fail
    refine H.out.mono ?_
    rintro e w' ⟨v', rfl, h1, o, h2⟩
    obtain ⟨a, m', c, rfl, rfl⟩ := own_shape h1
    go_wp2_with fail
    go_ret
    refine ⟨a, c, rfl, h1, ?_⟩
    have f := Fr.of_grown h2
    exact ((Fr.refl (S := fun k => v.ownBlock = some k) w).alloc o).trans f
  · have q1 : (k == 12) = false := beq_eq_false_iff_ne.2 h12
    by_cases h30 : k = 30
    · subst h30
      have hb2 : m < 65536 := by simp [mayS, surr] at hm; omega
      obtain ⟨y1, hy1⟩ : ∃ y, y = m / 256 := ⟨_, rfl⟩
      obtain ⟨y2, hy2⟩ : ∃ y, y = m % 256 := ⟨_, rfl⟩
      have hw1 : IntKind.u8.wrap ((m : Int) / 256) = (y1 : Int) := by rw [hy1]; simp [IntKind.wrap, IntKind.signed, IntKind.bits]; omega
      have hw2 : IntKind.u8.wrap (m : Int) = (y2 : Int) := by rw [hy2]; simp [IntKind.wrap, IntKind.signed, IntKind.bits]
      have hp : putS1 30 m = [UInt8.ofNat y1, UInt8.ofNat y2] := by rw [hy1, hy2]; rfl
      rw [hp]
      have BX := Blk.new w 5 #[.int .u8 y1, .int .u8 y2]
      have F1 : Fr (fun _ => False) w (w.alloc (.cells #[.int .u8 y1, .int .u8 y2] 5)) := (Fr.refl w).alloc _
      have hsrc : Bytes (w.alloc (.cells #[.int .u8 y1, .int .u8 y2] 5)) (.slice (some ⟨w.heap.size, 0, none⟩) 2 2) [UInt8.ofNat y1, UInt8.ofNat y2] := by
        have h := Vals.of_block BX (by unfold maxLen; simp)
        have e : Lib.byteCells [UInt8.ofNat y1, UInt8.ofNat y2] = [.int .u8 y1, .int .u8 y2] := by simp only [Lib.byteCells, List.map_cons, List.map_nil, u8 y1 (by omega), u8 y2 (by omega)]
        show Vals _ _ (Lib.byteCells [UInt8.ofNat y1, UInt8.ofNat y2])
        rw [e]
        exact h
      obtain ⟨v', w2, hrun, h1, F2, _⟩ := append_bytes (ownsRow_fr hown F1 (fun _ _ h => h)) (some ⟨w.heap.size, 0, none⟩) 2 2 [UInt8.ofNat y1, UInt8.ofNat y2] hsrc (by omega) (Nat.le_trans hb F1.size)
      obtain ⟨a, m', c, rfl, rfl⟩ := own_shape h1
      have HRUN := Lib.hid hrun
      have HOWN := Lib.hid h1
      have HF := Lib.hid ((F1.mono (T := fun k => v.ownBlock = some k) (fun _ _ h => h.elim)).trans F2)
      clear hrun h1 F1 F2 BX hsrc hp hm hk hk' hown hy1 hy2
      go_enter Tryz.func203, Tryz.ntmps203
      go_wp2_with (at_builtin; refine wpList_append_run (by rfl) (.tmp 16) (.tmp 22) 23 (by rfl) _ w2 (by exact HRUN.out) ?_)
      go_ret
      exact ⟨a, c, rfl, HOWN.out, HF.out⟩
    · have q2 : (k == 30) = false := beq_eq_false_iff_ne.2 h30
      have hb : m < 256 := by
        rcases hk' with r | r | r | r | r | r <;> subst r <;> simp [mayS] at hm <;> omega
      have hw : IntKind.u8.wrap (m : Int) = (m : Int) := by simp [IntKind.wrap, IntKind.signed, IntKind.bits]; omega
      have hp : putS1 k m = [UInt8.ofNat m] := by unfold putS1; rw [if_neg h12, if_neg h30]; rfl
      rw [hp]
      have BX := Blk.new w 5 #[.int .u8 m]
      have F1 : Fr (fun _ => False) w (w.alloc (.cells #[.int .u8 m] 5)) := (Fr.refl w).alloc _
      have hsrc : Bytes (w.alloc (.cells #[.int .u8 m] 5)) (.slice (some ⟨w.heap.size, 0, none⟩) 1 1) [UInt8.ofNat m] := by
        have h := Vals.of_block BX (by unfold maxLen; simp)
        have e : Lib.byteCells [UInt8.ofNat m] = [.int .u8 m] := by simp only [Lib.byteCells, List.map_cons, List.map_nil, u8 m hb]
        show Vals _ _ (Lib.byteCells [UInt8.ofNat m])
        rw [e]
        exact h
      obtain ⟨v', w2, hrun, h1, F2, _⟩ := append_bytes (ownsRow_fr hown F1 (fun _ _ h => h)) (some ⟨w.heap.size, 0, none⟩) 1 1 [UInt8.ofNat m] hsrc (by omega) (Nat.le_trans ‹base ≤ w.heap.size› F1.size)
      obtain ⟨a, m', c, rfl, rfl⟩ := own_shape h1
      have HRUN := Lib.hid hrun
      have HOWN := Lib.hid h1
      have HF := Lib.hid ((F1.mono (T := fun k => v.ownBlock = some k) (fun _ _ h => h.elim)).trans F2)
      clear hrun h1 F1 F2 BX hsrc hp hm hk hk' hown
      go_enter Tryz.func203, Tryz.ntmps203
      go_wp2_with (at_builtin; refine wpList_append_run (by rfl) (.tmp 24) (.tmp 27) 23 (by rfl) _ w2 (by exact HRUN.out) ?_)
      go_ret
      exact ⟨a, c, rfl, HOWN.out, HF.out⟩
end Go.Proofs.YtacekpdjapgfcaaGreatDoor

namespace Go.Q
open Go Go.RowKit
theorem enc_le (n : Nat) : (enc n).length ≤ 4 := by unfold enc; (repeat' split) <;> simp
theorem putS1_le (k n : Int) : (putS1 k n).length ≤ 4 := by
  unfold putS1
  split
  · exact enc_le _
  · split <;> simp
theorem ofS_take {k : Int} {l : List Int} {j : Nat} {n : Int} (h : l[j]? = some n) : ofS k (l.take (j + 1)) = ofS k (l.take j) ++ putS1 k n := by
  rw [List.take_add_one, h]
  simp [ofS]
theorem ofS_le (k : Int) (l : List Int) : (ofS k l).length ≤ 4 * l.length := by
  induction l with
  | nil => simp [ofS]
  | cons n l ih =>
    have := putS1_le k n
    simp only [ofS, List.flatMap_cons, List.length_append, List.length_cons] at ih ⊢
    omega
end Go.Q
namespace Go.Proofs.YtacekpdjapgfcaaGreatDoor
open Go Go.RowKit Go.Q
set_option maxRecDepth 20000 in
set_option maxHeartbeats 2000000 in
theorem ofText_any (k : Int) (v : Value) (l : List Int) (w : World) (h : Ints w v l) (hk : Go.Q.kindOk k = true) (hm : ∀ n ∈ l, mayS k n = true) (hl : l.length ≤ 100000000) :
    Calls Tryz.prog 159 #[.int .i64 k, v] w fun e w' => (∃ u, e = .returned (.tuple #[.agg #[.int .i64 k, u], .int .i64 0]) ∧ w'.ownsRow w.heap.size 5 1 u (ofS k l).length (Lib.byteCells (ofS k l))) ∧ Fr (fun _ => False) w w' := by
  have H := Lib.hid h
  have HM := Lib.hid hm
  obtain ⟨a, cap, rfl, -⟩ := Ints.form h
  obtain ⟨z, hz⟩ : ∃ z, z = w.heap.size := ⟨_, rfl⟩
  have F0 : Fr (fun _ => False) w (w.alloc (.cells #[.int .i64 0, .slice none 0 0] 172)) := (Fr.refl w).alloc _
  have B0 := Blk.new w 172 #[.int .i64 0, .slice none 0 0]
  rw [← hz] at B0
  have HZ := Lib.hid hz
  have HF0 := Lib.hid F0
  have HKN := Lib.hid (known_any k (w.alloc (.cells #[.int .i64 0, .slice none 0 0] 172)))
  rw [hk] at HKN
  have HK := Lib.hid hk
  clear h F0 hz hk hm
  go_enter Tryz.func159, Tryz.ntmps159
  go_upto_region 1 with fail
  rw [← HZ.out]
  generalize (w.alloc (.cells #[.int .i64 0, .slice none 0 0] 172)) = w1 at *
  go_upto_region 4 with (first | (go_at_call 201; refine HKN.out.mono ?_; rintro e w2 ⟨rfl, F2⟩))
  obtain ⟨y, hy⟩ : ∃ y, y = w2.heap.size := ⟨_, rfl⟩
  have F3 : Fr (fun _ => False) w2 (w2.alloc (.cells #[.int .i64 k, .slice none 0 0] 172)) := (Fr.refl w2).alloc _
  have BZ := (B0.fr F2 (fun h => h)).fr F3 (fun h => h)
  have BY := Blk.new w2 172 #[.int .i64 k, .slice none 0 0]
  have hzy : z < y := by have := (B0.fr F2 (fun h => h)).lt; omega
  have hs3 : y + 1 = (w2.alloc (.cells #[.int .i64 k, .slice none 0 0] 172)).heap.size := by rw [hy, World.size_alloc]
  have HF3 := Lib.hid ((HF0.out.trans F2).trans F3)
  rw [← hy] at BY ⊢
  clear HKN B0 HF0 F2 F3 hy
  generalize (w2.alloc (.cells #[.int .i64 k, .slice none 0 0] 172)) = w3 at *
  go_wp2_with fail
  go_loopg [17] l.length (fun g i wr => ∃ (j : Nat) (u : Value), g = l.length - j ∧ j ≤ l.length ∧ i = .int .i64 j ∧ Blk wr z 172 #[.int .i64 0, .slice none 0 0] ∧ Blk wr y 172 #[.int .i64 k, u] ∧ wr.ownsRow (y + 1) 5 1 u (ofS k (l.take j)).length (Lib.byteCells (ofS k (l.take j))) ∧ Fr (fun _ => False) w wr ∧ y + 1 ≤ wr.heap.size)
  case atStart => exact ⟨0, _, rfl, Nat.zero_le _, rfl, BZ, BY, ⟨rfl, .inl ⟨rfl, rfl⟩⟩, HF3.out, by omega⟩
  case round =>
    obtain ⟨j, u, hg, hj, rfl, BZ, BY, hown, F, hsz⟩ := hrel
    have HG := Lib.hid hg
    clear hg
    by_cases hjl : j < l.length
    · obtain ⟨a0, cap0, he, _, _, hx⟩ := Ints.form (H.out.old F)
      simp only [Value.slice.injEq, true_and] at he
      obtain ⟨rfl, rfl⟩ := he
      obtain ⟨b, off, rfl, hy⟩ := hx (by omega)
      obtain ⟨n, hn⟩ : ∃ n, l[j]? = some n := ⟨_, List.getElem?_eq_getElem hjl⟩
      have e1 := hy j n hn
      have hmn := HM.out n (List.mem_of_getElem? hn)
      have hn0 : 0 ≤ n := by
        have hk' : k = 12 ∨ k = 19 ∨ k = 20 ∨ k = 22 ∨ k = 26 ∨ k = 30 := by simpa [Go.Q.kindOk] using HK.out
        rcases hk' with r | r | r | r | r | r <;> subst r <;> simp [mayS] at hmn <;> omega
      obtain ⟨m, rfl⟩ : ∃ m : Nat, n = m := ⟨n.toNat, by omega⟩
      have hle := ofS_le k (l.take j)
      rw [List.length_take] at hle
      have hft := ofS_take (k := k) hn
      have HFT := Lib.hid hft
      have y0 := BY.cell 0
      have y1 := BY.cell 1
      have g1 := BY.frozen 1
      simp at y0 y1
      have HP := Lib.hid (putText_any k m hown hmn HK.out (by omega) (by omega))
      have HMY := Lib.hid (may_any k m wr)
      rw [hmn] at HMY
      have r1 : (0 : Int) ≤ (j : Int) := by omega
      have r2 : (j : Int) < (l.length : Int) := by omega
      have huy : ∀ q, u.ownBlock = some q → y + 1 ≤ q := fun q hq => ((Vals.of_own hown).2 q hq).1
      have HUY := Lib.hid huy
      clear hx hy hn hmn hft hown huy
      go_wp2_with (first | (go_at_call 202; refine HMY.out.mono ?_; rintro e w5 ⟨rfl, rfl⟩))
      refine HP.out.mono ?_
      rintro e w5 ⟨a5, c5, rfl, h5, F5⟩
      have BY5 := BY.fr F5 (fun e => by have := HUY.out _ e; omega)
      have BZ5 := BZ.fr F5 (fun e => by have := HUY.out _ e; omega)
      have g5 := BY5.frozen 1
      have y5 := BY5.cell 1
      simp at y5
      generalize (ofS k (l.take j)).length + (putS1 k m).length = N5 at *
      have F6 : Fr (fun q => q = y) w5 (w5.setCell ⟨y, 1, none⟩ (.slice a5 N5 c5)) := Fr.setCell (S := fun q => q = y) (p := ⟨y, 1, none⟩) (Fr.refl w5) (fun _ => rfl) _
      have BY6 := BY5.set 1 (.slice a5 N5 c5)
      simp at BY6
      have BZ6 := BZ5.fr F6 (by omega)
      have h6 := ownsRow_fr h5 F6 (fun q hq e => by have := ((Vals.of_own h5).2 q hq).1; omega)
      have G6 := (F.trans' F5 (fun i hi e => by have := HUY.out _ e; have := HZ.out; omega)).trans' F6 (fun i hi e => by have := HZ.out; omega)
      have hs6 := F6.size
      have hs5 := F5.size
      have hlen : N5 = (ofS k (l.take (j + 1))).length := by
        have := h6.1
        rw [byteCells_len, Nat.mul_one] at this
        rw [HFT.out, ← this]
      have HLEN := Lib.hid hlen
      have HG6 := Lib.hid G6
      have HH6 := Lib.hid h6
      clear hlen G6 h6 h5 F5 F6 F HP HMY
      go_wp2_with fail
      go_roundg (l.length - (j + 1))
      case measure => rw [HG.out]; omega
      case rel => exact ⟨j + 1, _, rfl, by omega, by go_num, BZ6, BY6, by rw [HFT.out, ← HFT.out, ← HLEN.out]; rw [HFT.out]; exact HH6.out, HG6.out, by omega⟩
    · have hall : l.take j = l := List.take_of_length_le (by omega)
      rw [hall] at hown
      have y0 := BY.cell 0
      have y1 := BY.cell 1
      have z0 := BZ.frozen 0
      have z1 := BZ.frozen 1
      have zc0 := BZ.cell 0
      have zc1 := BZ.cell 1
      simp at y0 y1 zc0 zc1
      obtain ⟨BZ6, F6⟩ := set2 BZ (.int .i64 k) u
      have HO6 := Lib.hid (own_le (ownsRow_fr hown F6 (fun q hq e => by have := ((Vals.of_own hown).2 q hq).1; omega)) (base' := w.heap.size) (by have := HZ.out; omega))
      have HF6 := Lib.hid (F.trans' F6 (fun i hi e => by have := HZ.out; omega))
      obtain ⟨au, mu, cu, rfl, -⟩ := own_shape hown
      clear hown F F6 hall
      go_wp2_with fail
      have n0 := BZ6.cell 0
      have n1 := BZ6.cell 1
      simp at n0 n1
      exact bodyPost_ret (v := .tuple #[.agg #[.int .i64 k, .slice au mu cu], .int .i64 0]) (by simp [results, Tryz.results159, go_sem, n0, n1]) rfl ⟨⟨_, rfl, HO6.out⟩, HF6.out⟩
end Go.Proofs.YtacekpdjapgfcaaGreatDoor

namespace Go.Proofs.YtacekpdjapgfcaaGreatDoor
open Go Go.RowKit Go.Q
theorem Parts.one {w : World} {u1 : Value} {l1 : List UInt8} (h1 : Bytes w u1 l1) : Parts (w.alloc (.cells #[u1] 23)) (.slice (some ⟨w.heap.size, 0, none⟩) 1 1) [l1] := by
  have F : Fr (fun _ => False) w (w.alloc (.cells #[u1] 23)) := (Fr.refl w).alloc _
  refine ⟨[u1], Vals.of_block (Blk.new w 23 #[u1]) (by unfold maxLen; simp), rfl, fun i u l hu hl => ?_⟩
  match i, hu, hl with
  | 0, hu, hl =>
    simp only [List.getElem?_cons_zero, Option.some.injEq] at hu hl
    subst hu; subst hl
    exact h1.old F
  | i + 1, hu, hl => simp at hu
end Go.Proofs.YtacekpdjapgfcaaGreatDoor
