/-
  Merged by program: XNAttrs XRd XR02R XR02L XR02D XR02S XR04S XNRdn XNRight XRdSpec XNStr XR06a XR06b XR06c XR06d XR06e XR06g XR06h XR06s XR06T XNText1 XNText2 XNSeq XNIter1 XNIter2 XShelf2 XNDec XNIter3 XNText3 XNText4 XNText5 XNPut XNTextOf XNTextW XNTextR XR06R XR08 XR02 XR04D XNLeast XNBld XNOidT XNLibS XNOidN XNOidF XNFold XNFold2 XNUtf8 XNHex XNWords XNStep XNameOf XNConcat XNRdnK XNSame XNTexts XR04 XR14W XR01 XR14S.
-/
import Derived.Test.YthamenngccaijaaGreatDoorC0a
import Derived.ProofKit
import Derived.Deep.Slices
import Derived.OpenShut
import Derived.Lib.SliceRun
import Derived.Laws.IdiomStrings
import Derived.Shelf.Bytes.SlSmallAll
import Derived.Lib.ConvBytes
import Derived.RangeFuncNested
import Derived.RangeFuncBound
import Derived.RangeFuncCalls
import Derived.RangeFuncLeaves
import Derived.Shelf.Abstract
import Derived.Shelf.RegionOpen
import Derived.OwnWalkIn
import Derived.TacticsInMore
import Derived.LoopNIn
import Derived.LoopIn
import Derived.Shelf.Spec.DecodeRune
import Derived.Shelf.Spec.NilArms
import Derived.Test.YthamenngccaijaaGreatDoorProg
import Derived.Lib.RuneBytes
import Derived.Deep.RegionLaw
import Derived.Lib.Builder
import Derived.Lib.AppendStr
import Derived.Sort.OwnSorted
import Derived.Lib.Split
import Derived.Lib.RowBridge
import Derived.Lib.AppendZerosOnto
import Derived.Lib.Walk
namespace Go.Q
open Go Go.RowKit
structure Part where
  o : List Int
  b : List UInt8
def Attrs (w : World) (v : Value) (l : List Part) : Prop :=
  ∃ a cap, v = .slice a l.length cap ∧ l.length ≤ cap ∧ cap ≤ maxLen ∧ (0 < l.length → ∃ b o, a = some ⟨b, o, none⟩ ∧ ∀ i p, l[i]? = some p → ∃ x y, w.cell? ⟨b, o + 2 * i, none⟩ = some x ∧ w.cell? ⟨b, o + 2 * i + 1, none⟩ = some y ∧ Vals w x (intCells p.o) ∧ Bytes w y p.b)
theorem Attrs.old {w w' : World} {v : Value} {l : List Part} (h : Attrs w v l) (f : Fr (fun _ => False) w w') : Attrs w' v l := by
  obtain ⟨a, cap, rfl, h1, h2, h3⟩ := h
  refine ⟨a, cap, rfl, h1, h2, fun h0 => ?_⟩
  obtain ⟨b, o, rfl, hy⟩ := h3 h0
  refine ⟨b, o, rfl, fun i p hp => ?_⟩
  obtain ⟨x, y, e1, e2, e3, e4⟩ := hy i p hp
  exact ⟨x, y, f.cell e1 (fun h => h), f.cell e2 (fun h => h), e3.old f, e4.old f⟩
def NameAt (w : World) (v : Value) (l : List (List Part)) : Prop :=
  ∃ a cap, v = .slice a l.length cap ∧ l.length ≤ cap ∧ cap ≤ maxLen ∧ (0 < l.length → ∃ b o, a = some ⟨b, o, none⟩ ∧ ∀ i r, l[i]? = some r → ∃ x, w.cell? ⟨b, o + i, none⟩ = some x ∧ Attrs w x r)
theorem NameAt.old {w w' : World} {v : Value} {l : List (List Part)} (h : NameAt w v l) (f : Fr (fun _ => False) w w') : NameAt w' v l := by
  obtain ⟨a, cap, rfl, h1, h2, h3⟩ := h
  refine ⟨a, cap, rfl, h1, h2, fun h0 => ?_⟩
  obtain ⟨b, o, rfl, hy⟩ := h3 h0
  refine ⟨b, o, rfl, fun i p hp => ?_⟩
  obtain ⟨x, e1, e2⟩ := hy i p hp
  exact ⟨x, f.cell e1 (fun h => h), e2.old f⟩
def stepsS (last : Option (List UInt8)) : List Part → Option (List (List UInt8))
  | [] => some []
  | p :: t =>
    match attrS p.o p.b with
    | none => none
    | some x => if (match last with | some y => decide (0 ≤ cmpS y x) | none => false) = true then none else (stepsS (some x) t).map (x :: ·)
def rdnS (l : List Part) : Option (List (List UInt8)) := if l.length = 0 ∨ 16 < l.length then none else stepsS none l
def fewB (l : List Part) : Prop := ∀ p ∈ l, p.b.length ≤ 10000000
theorem set2 {w : World} {z : Nat} {t : TypeId} {c1 c2 : Value} (B : Blk w z t #[c1, c2]) (v1 v2 : Value) : Blk ((w.setCell ⟨z, 0, none⟩ v1).setCell ⟨z, 1, none⟩ v2) z t #[v1, v2] ∧ Fr (fun k => k = z) w ((w.setCell ⟨z, 0, none⟩ v1).setCell ⟨z, 1, none⟩ v2) := by
  refine ⟨?_, ?_⟩
  · have := (B.set 0 v1).set 1 v2
    simpa using this
  · exact Fr.setCell (S := fun k => k = z) (p := ⟨z, 1, none⟩) (Fr.setCell (S := fun k => k = z) (p := ⟨z, 0, none⟩) (Fr.refl w) (fun _ => rfl) _) (fun _ => rfl) _
end Go.Q
namespace Go.Proofs.YthamenngccaijaaGreatDoor
open Go Go.RowKit Go.Q
def Row (w : World) (base : Nat) (v : Value) (ws : List (List UInt8)) : Prop :=
  ∃ us, w.ownsRow base 23 1 v ws.length us ∧ us.length = ws.length ∧ ∀ (i : Nat) (u : Value) (x : List UInt8), us[i]? = some u → ws[i]? = some x → BytesK w (fun k => v.ownBlock = some k) u x
theorem Row.parts {w : World} {base : Nat} {v : Value} {ws : List (List UInt8)} (h : Row w base v ws) : Parts w v ws := by
  obtain ⟨us, h1, h2, h3⟩ := h
  exact ⟨us, (Vals.of_own h1).1, h2, fun i u l hu hl => (h3 i u l hu hl).1⟩
theorem Row.old {w w' : World} {base : Nat} {v : Value} {ws : List (List UInt8)} (h : Row w base v ws) (f : Fr (fun _ => False) w w') : Row w' base v ws := by
  obtain ⟨us, h1, h2, h3⟩ := h
  exact ⟨us, ownsRow_fr h1 f (fun _ _ h => h), h2, fun i u l hu hl => (h3 i u l hu hl).old f⟩
theorem Row.nil (w : World) (base : Nat) : Row w base (.slice none 0 0) [] := ⟨[], ⟨rfl, .inl ⟨rfl, rfl⟩⟩, rfl, fun i u l hu => by simp at hu⟩
theorem Row.add {w : World} {base : Nat} {v : Value} {ws : List (List UInt8)} (h : Row w base v ws) (g : Nat) (u : Value) (x : List UInt8) (B : Blk w g 23 #[u]) (hu : Bytes w u x) (hou : ∀ k, u.ownBlock = some k → v.ownBlock ≠ some k) (hsz : ws.length ≤ 2000000000000) (hb : base ≤ w.heap.size) :
    ∃ a c w', (Builtin.append_ #[136, 136] 136 #[v, .slice (some ⟨g, 0, none⟩) 1 1]).run Tryz.prog w = .ok (.slice a (ws.length + 1) c) w' ∧ Row w' base (.slice a (ws.length + 1) c) (ws ++ [x]) ∧ Fr (fun k => v.ownBlock = some k) w w' := by
  obtain ⟨us, h1, h2, h3⟩ := h
  obtain ⟨a, c, rfl, hc⟩ := hu.form
  have hu1 : Bytes w (.slice a x.length c) x := hu
  obtain ⟨v', w', hr, h4, h5, h6⟩ := append_one h1 g _ B rfl hsz hb
  obtain ⟨a', m', c', rfl, rfl⟩ := own_shape h4
  have hK : ∀ k, (Value.slice a' (ws.length + 1) c').ownBlock = some k → v.ownBlock = some k ∨ w.heap.size ≤ k := fun k hk => by
    rcases h6 with h | h
    · exact .inl (by rw [← h]; exact hk)
    · rw [h] at hk
      cases hk
      exact .inr (Nat.le_refl _)
  refine ⟨a', c', w', hr, ⟨us ++ [.slice a x.length c], by simpa using h4, by simp [h2], fun i u y hi hy => ?_⟩, h5⟩
  have hlt : i < ws.length + 1 := by have := (List.getElem?_eq_some_iff.1 hy).1; simpa using this
  rcases Nat.lt_or_ge i ws.length with hi2 | hi2
  · rw [List.getElem?_append_left (by omega)] at hi hy
    exact (h3 i u y hi hy).fr h5 (fun _ _ h => h) hK
  · obtain rfl : i = ws.length := by omega
    rw [List.getElem?_append_right (by omega)] at hi hy
    simp [h2] at hi
    simp at hy
    subst hi; subst hy
    exact ValsK.fr (K := fun k => v.ownBlock = some k) ⟨hu1, fun _ k hk e => hou k hk e⟩ h5 (fun _ _ h => h) hK
theorem stepsS_split (l : List Part) (j : Nat) (p : Part) (hp : l[j]? = some p) (last : Option (List UInt8)) : stepsS last (l.drop j) = match attrS p.o p.b with | none => none | some x => if (match last with | some y => decide (0 ≤ cmpS y x) | none => false) = true then none else (stepsS (some x) (l.drop (j + 1))).map (x :: ·) := by
  have : l.drop j = p :: l.drop (j + 1) := by
    obtain ⟨h, rfl⟩ := List.getElem?_eq_some_iff.1 hp
    exact List.drop_eq_getElem_cons h
  rw [this]
  rfl
end Go.Proofs.YthamenngccaijaaGreatDoor

namespace Go.Q
open Go Go.RowKit
theorem list_of {α : Type} {p : Nat → α → Prop} : ∀ n, (∀ i, i < n → ∃ a, p i a) → ∃ l : List α, l.length = n ∧ ∀ i a, l[i]? = some a → p i a
  | 0, _ => ⟨[], rfl, fun i a h => by simp at h⟩
  | n + 1, h => by
    obtain ⟨l, hl, hp⟩ := list_of n (fun i hi => h i (by omega))
    obtain ⟨a, ha⟩ := h n (by omega)
    refine ⟨l ++ [a], by simp [hl], fun i b hb => ?_⟩
    rcases Nat.lt_or_ge i l.length with hi | hi
    · rw [List.getElem?_append_left hi] at hb
      exact hp i b hb
    · rw [List.getElem?_append_right hi] at hb
      have h0 : i - l.length = 0 := by
        have := (List.getElem?_eq_some_iff.1 hb).1
        simp at this
        omega
      rw [h0] at hb
      simp only [List.getElem?_cons_zero, Option.some.injEq] at hb
      subst hb
      obtain rfl : i = n := by omega
      exact ha
end Go.Q
namespace Go.Proofs.YthamenngccaijaaGreatDoor
open Go Go.RowKit Go.Q Go.ChangeShapes Go.WideShapes Go.ChangeAt
section
variable {H : Type} {enc : TypeId × Value → H} {P : Program} {w : World} {base fuel : Nat} {spare : Nat → Bool} {held : Bool} {cs : List Value} {x : DataW H × List MemPlace}
theorem rd_slice {α : Type} {t e : TypeId} {c : Nat} (ht : P.underlying t = some (.slice e)) (hc : P.cellsOf e = c) (hc0 : 0 < c) (R : α → List Value → Prop)
    (hR : ∀ n cs x, DataW.trod enc P w base spare held n e cs = some x → cs.length = c → ∃ a, R a cs) (h : DataW.trod enc P w base spare held fuel t cs = some x) :
    ∃ (a : Option Addr) (cap : Nat) (l : List α), cs = [.slice a l.length cap] ∧ l.length ≤ cap ∧ cap ≤ maxLen ∧ (0 < l.length → ∃ b o, a = some ⟨b, o, none⟩ ∧ ∀ i u, l[i]? = some u → ∃ ds, ds.length = c ∧ R u ds ∧ ∀ j v, ds[j]? = some v → w.cell? ⟨b, o + c * i + j, none⟩ = some v) := by
  rcases Go.Deep.open_slice ht h with ⟨rfl, _⟩ | ⟨a, len, cap, m, n, D, Pl, rfl, _, hl, hm, hmm, _, hx⟩
  · exact ⟨none, 0, [], rfl, Nat.le_refl _, Nat.zero_le _, fun h => absurd h (Nat.lt_irrefl _)⟩
  · have hlm : len ≤ m := by rw [hmm]; split <;> omega
    obtain ⟨l, hll, hp⟩ := list_of (p := fun i u => ∃ ds : List Value, ds.length = c ∧ R u ds ∧ ∀ j v, ds[j]? = some v → w.cell? ((a.add (i * c)).add j) = some v) len (fun i hi => by
      obtain ⟨ds, h1, h2⟩ := hx i (by omega)
      obtain ⟨_, h3, h4⟩ := World.cells?_some h1
      rw [hc] at h1 h3 h4
      obtain ⟨u, hu⟩ := hR n ds _ h2 h3
      refine ⟨u, ds, h3, hu, fun j v hj => ?_⟩
      have hjl : j < c := by rw [← h3]; exact (List.getElem?_eq_some_iff.1 hj).1
      have := h4 j hjl
      rw [this, ← hj])
    refine ⟨some a, cap, l, by rw [hll], by omega, hm, fun h0 => ?_⟩
    obtain ⟨u, hu⟩ : ∃ u, l[0]? = some u := ⟨_, List.getElem?_eq_getElem h0⟩
    obtain ⟨ds, hd1, _, hd2⟩ := hp 0 u hu
    obtain ⟨v, hv⟩ : ∃ v, ds[0]? = some v := ⟨_, List.getElem?_eq_getElem (by omega)⟩
    have sp : a.spot = none := by
      have := World.cell?_spot (hd2 0 v hv)
      simpa [Addr.add] using this
    obtain ⟨b, o, spt⟩ := a
    simp only at sp
    subst sp
    refine ⟨b, o, rfl, fun i u hu => ?_⟩
    obtain ⟨ds, hd1, hd2, hd3⟩ := hp i u hu
    refine ⟨ds, hd1, hd2, fun j v hj => ?_⟩
    have := hd3 j v hj
    rw [show ((⟨b, o, none⟩ : Addr).add (i * c)).add j = ⟨b, o + c * i + j, none⟩ from by unfold Addr.add; split <;> split <;> simp_all [Nat.mul_comm]] at this
    exact this
end
section
variable {H : Type} {enc : TypeId × Value → H} {w : World} {base fuel : Nat} {spare : Nat → Bool} {held : Bool} {cs : List Value} {x : DataW H × List MemPlace}
theorem rc5 : Tryz.prog.cellsOf 5 = 1 := by kernel_rfl
theorem rd_bytes (h : DataW.trod enc Tryz.prog w base spare held fuel 23 cs = some x) : ∃ v l, cs = [v] ∧ Bytes w v l := by
  obtain ⟨a, cap, l, rfl, h1, h2, h3⟩ := rd_slice Tryz.underlying23 rc5 (by decide) (fun (n : UInt8) ds => ds = [.int .u8 n.toNat]) (fun n ds y hy _ => by
    obtain ⟨k, e, -, hw⟩ := DataW.trod_int Tryz.underlying5 hy
    have hb := bounds_u8 hw
    refine ⟨UInt8.ofNat k.toNat, ?_⟩
    rw [e, Go.Q.u8 k.toNat (by omega), show ((k.toNat : Nat) : Int) = k from by omega]) h
  refine ⟨_, l, rfl, a, cap, by rw [byteCells_len], by rw [byteCells_len]; exact h1, h2, fun h0 => ?_⟩
  rw [byteCells_len] at h0
  obtain ⟨b, o, rfl, hy⟩ := h3 h0
  refine ⟨b, o, rfl, fun i u hu => ?_⟩
  rw [byteCells_get] at hu
  cases hl : l[i]? with
  | none => rw [hl] at hu; cases hu
  | some n =>
    rw [hl] at hu
    simp only [Option.map_some, Option.some.injEq] at hu
    obtain ⟨ds, _, rfl, hj⟩ := hy i n hl
    have := hj 0 _ rfl
    simp only [Nat.one_mul, Nat.add_zero] at this
    rw [this, hu]
end
end Go.Proofs.YthamenngccaijaaGreatDoor

namespace Go.Proofs.YthamenngccaijaaGreatDoor
open Go Go.RowKit Go.Q
set_option linter.unusedSimpArgs false
def rTagV (p : Nat) : Except Int (Tag × Nat) → Value
  | .error e => .tuple #[tagV ⟨0, 0, false⟩, .int .i64 p, .int .i64 e]
  | .ok (t, k) => .tuple #[tagV t, .int .i64 ((p + k : Nat) : Int), .int .i64 0]
end Go.Proofs.YthamenngccaijaaGreatDoor

namespace Go.Proofs.YthamenngccaijaaGreatDoor
open Go Go.RowKit Go.Q
def rLenV (p : Nat) : Except Int (Nat × Nat) → Value
  | .error e => .tuple #[.int .i64 0, .int .i64 p, .int .i64 e]
  | .ok (v, k) => .tuple #[.int .i64 v, .int .i64 ((p + k : Nat) : Int), .int .i64 0]
end Go.Proofs.YthamenngccaijaaGreatDoor

namespace Go.Proofs.YthamenngccaijaaGreatDoor
open Go Go.RowKit Go.Q
set_option linter.unusedSimpArgs false
def rReadV (p : Nat) : Except Int (Tag × Nat × Nat) → Value
  | .error e => .tuple #[tagV ⟨0, 0, false⟩, .int .i64 0, .int .i64 p, .int .i64 e]
  | .ok (t, n, k) => .tuple #[tagV t, .int .i64 n, .int .i64 ((p + k : Nat) : Int), .int .i64 0]
theorem readTag_le {l : List UInt8} {t : Tag} {k : Nat} (h : readTagS l = .ok (t, k)) : k ≤ l.length := by
  cases l with
  | nil => simp [readTagS] at h
  | cons x r =>
    simp only [readTagS] at h
    split at h
    · simp only [Except.ok.injEq, Prod.mk.injEq] at h
      simp only [List.length_cons]
      omega
    · split at h
      · cases h
      · rename_i n k' he
        have := (numS_pos he).2
        simp only [Except.ok.injEq, Prod.mk.injEq] at h
        simp only [List.length_cons]
        omega
end Go.Proofs.YthamenngccaijaaGreatDoor

namespace Go.Q
open Go
theorem readLen_le {l : List UInt8} {v k : Nat} (h : readLenS l = .ok (v, k)) : k ≤ l.length ∧ v ≤ 16777216 := by
  cases l with
  | nil => simp [readLenS] at h
  | cons x t =>
    simp only [readLenS] at h
    split at h
    · simp only [Except.ok.injEq, Prod.mk.injEq] at h
      simp only [List.length_cons]
      omega
    · split at h
      · cases h
      · unfold longS at h
        split at h
        · cases h
        split at h
        · cases h
        split at h
        · cases h
        · simp only [Except.ok.injEq, Prod.mk.injEq] at h
          simp only [List.length_cons]
          omega
theorem readS_le {l : List UInt8} {t : Tag} {n k : Nat} (h : readS l = .ok (t, n, k)) : k ≤ l.length ∧ n ≤ 16777216 := by
  unfold readS at h
  split at h
  · cases h
  · rename_i t' k' he
    have h1 := Go.Proofs.YthamenngccaijaaGreatDoor.readTag_le he
    split at h
    · cases h
    · rename_i v m hl
      have h2 := readLen_le hl
      rw [List.length_drop] at h2
      simp only [Except.ok.injEq, Prod.mk.injEq] at h
      omega
end Go.Q

namespace Go.Q
open Go Go.RowKit
theorem up7_zero (f : Nat) : up7 f 0 = [] := by cases f <;> simp [up7]
theorem up7_ge : ∀ (f m : Nat), m < 128 ^ f → up7 (f + 1) m = up7 f m
  | 0, m, h => by simp at h; subst h; simp [up7]
  | f + 1, m, h => by
    by_cases h0 : m = 0
    · subst h0; simp [up7]
    · have ih := up7_ge f (m / 128) (by rw [Nat.pow_succ] at h; omega)
      rw [up7, if_neg h0, ih]
      rw [up7, if_neg h0]
end Go.Q

namespace Go.Proofs.YthamenngccaijaaGreatDoor
open Go Go.RowKit Go.Q
theorem steps_next {l : List Part} {ws : List (List UInt8)} {x : List UInt8} {j : Nat} (hS : stepsS none l = (stepsS ws.getLast? (l.drop j)).map (ws ++ ·))
    (hsp : stepsS ws.getLast? (l.drop j) = if (match ws.getLast? with | some y => decide (0 ≤ cmpS y x) | none => false) = true then none else (stepsS (some x) (l.drop (j + 1))).map (x :: ·))
    (hc : (match ws.getLast? with | some y => decide (0 ≤ cmpS y x) | none => false) = false) : stepsS none l = (stepsS (ws ++ [x]).getLast? (l.drop (j + 1))).map ((ws ++ [x]) ++ ·) := by
  rw [hS, hsp, hc, List.getLast?_concat]
  simp only [Bool.false_eq_true, ↓reduceIte, Option.map_map]
  congr 1
  funext y
  simp
theorem attr_len {o : List Int} {b x : List UInt8} (h : attrS o b = some x) (hb : b.length ≤ 10000000) : 0 < x.length ∧ x.length ≤ 1099511627776 := by
  unfold attrS at h
  split at h
  · rename_i h0
    simp only [Bool.and_eq_true] at h0
    simp only [Option.some.injEq] at h
    subst h
    have h1 := oidWhole_len (nums_ok h0.1).2.1
    have h2 : (lenBytes (oidWhole o ++ b).length).length ≤ 5 := by unfold lenBytes; (repeat' split) <;> simp
    rw [wrap_len, List.length_append] at *
    omega
  · cases h
set_option maxRecDepth 20000 in
set_option maxHeartbeats 2000000 in
theorem wholesRdn_any (v : Value) (l : List Part) (w : World) (h : Attrs w v l) (hf : fewB l) :
    Calls Tryz.prog 103 #[v] w fun e w' => (∃ v', e = .returned (.tuple #[v', .bool (rdnS l).isSome]) ∧ ∀ ls, rdnS l = some ls → Row w' w.heap.size v' ls) ∧ Fr (fun _ => False) w w' := by
  have H := Lib.hid h
  obtain ⟨a, cap, rfl, hc, hm, -⟩ := h
  rcases Classical.em (l.length = 0 ∨ 16 < l.length) with hl | hl
  · have hn : rdnS l = none := by unfold rdnS; rw [if_pos hl]
    rcases hl with hl | hl
    · have HN := Lib.hid hn
      have q1 : ((l.length : Int) == 0) = true := by rw [hl]; rfl
      have q2 : (l.length == 0) = true := by rw [hl]; rfl
      clear hn
      go_enter Tryz.func103, Tryz.ntmps103
      go_wp2_with fail
      refine bodyPost_ret (v := .tuple #[.slice none 0 0, .bool false]) (by simp [results, Tryz.results103, go_sem]) rfl ⟨⟨_, by rw [HN.out]; rfl, fun ls e => by rw [HN.out] at e; cases e⟩, Fr.refl _⟩
    · have HN := Lib.hid hn
      have q1 : ((l.length : Int) == 0) = false := beq_eq_false_iff_ne.2 (by omega)
      have q2 : (l.length == 0) = false := beq_eq_false_iff_ne.2 (by omega)
      have q3 : (16 : Int) < (l.length : Int) := by omega
      clear hn
      go_enter Tryz.func103, Tryz.ntmps103
      go_wp2_with fail
      refine bodyPost_ret (v := .tuple #[.slice none 0 0, .bool false]) (by simp [results, Tryz.results103, go_sem]) rfl ⟨⟨_, by rw [HN.out]; rfl, fun ls e => by rw [HN.out] at e; cases e⟩, Fr.refl _⟩
  · have hn : rdnS l = stepsS none l := by unfold rdnS; rw [if_neg hl]
    have HN := Lib.hid hn
    have q1 : ((l.length : Int) == 0) = false := beq_eq_false_iff_ne.2 (by omega)
    have q2 : (l.length == 0) = false := beq_eq_false_iff_ne.2 (by omega)
    have q3 : ¬ (16 : Int) < (l.length : Int) := by omega
    have qT : ∀ (w : World) (a : Option Addr) (n c n' c' : Nat), (binOp .eql 23 (.slice a n c) (.slice none n' c')).run Tryz.prog w = .ok (.bool a.isNone) w := fun w a n c n' c' => Lib.run_eql_slice_nil w _ _ a n c n' c' Tryz.underlying23
    clear hn
    go_enter Tryz.func103, Tryz.ntmps103
    go_wp2_with fail
    go_loopg [4, 18] l.length (fun g u i wr => ∃ (j : Nat) (ws : List (List UInt8)), g = l.length - j ∧ j ≤ l.length ∧ i = .int .i64 j ∧ ws.length = j ∧ (∀ y ∈ ws, y.length ≤ 1099511627776) ∧ Row wr w.heap.size u ws ∧ Fr (fun _ => False) w wr ∧ (stepsS none l = (stepsS ws.getLast? (l.drop j)).map (ws ++ ·)))
    case atStart => exact ⟨0, [], rfl, Nat.zero_le _, rfl, rfl, by simp, Row.nil _ _, Fr.refl _, by simp⟩
    case round =>
      obtain ⟨j, ws, hg, hj, rfl, hws, hwl, hrow, F, hS⟩ := hrel
      have HG := Lib.hid hg
      have HS := Lib.hid hS
      have HF := Lib.hid F
      obtain ⟨au, cu, rfl⟩ : ∃ au cu, u4 = .slice au j cu := by
        obtain ⟨us, h1, _⟩ := hrow
        obtain ⟨a0, m0, c0, rfl, rfl⟩ := own_shape h1
        exact ⟨_, _, by rw [hws]⟩
      have HR := Lib.hid hrow
      have HWS := Lib.hid hws
      clear hg hS hrow hws
      by_cases hjl : j < l.length
      · obtain ⟨a0, cap0, he, _, _, hx⟩ := H.out.old F
        simp only [Value.slice.injEq, true_and] at he
        obtain ⟨rfl, rfl⟩ := he
        obtain ⟨b, off, rfl, hy⟩ := hx (by omega)
        obtain ⟨p, hp⟩ : ∃ p, l[j]? = some p := ⟨_, List.getElem?_eq_getElem hjl⟩
        obtain ⟨x, y, e1, e2, hpx, hpy⟩ := hy j p hp
        have hsp := Lib.hid (stepsS_split l j p hp ws.getLast?)
        have hpb := hf p (List.mem_of_getElem? hp)
        have r1 : (0 : Int) ≤ (j : Int) := by omega
        have r2 : (j : Int) < (l.length : Int) := by omega
        have HPX := Lib.hid hpx
        have HPY := Lib.hid hpy
        obtain ⟨ax, cx, rfl, -⟩ := Ints.form hpx
        obtain ⟨ay, cy, rfl, -⟩ := Vals.form hpy
        have e1' : wr.cell? ⟨b, off + j * 2, none⟩ = some (.slice ax p.o.length cx) := by rw [Nat.mul_comm]; exact e1
        have e2' : wr.cell? ⟨b, off + j * 2 + 1, none⟩ = some (.slice ay p.b.length cy) := by rw [Nat.mul_comm]; exact e2
        clear hx hy hp hpx hpy F
        go_upto_region 7 with fail
        have BZ := Blk.new wr 108 #[.slice ax p.o.length cx, .slice ay p.b.length cy]
        have F1 : Fr (fun _ => False) wr (wr.alloc (.cells #[.slice ax p.o.length cx, .slice ay p.b.length cy] 108)) := (Fr.refl wr).alloc _
        have HPX1 := Lib.hid (HPX.out.old F1)
        have HPY1 := Lib.hid (HPY.out.old F1)
        have HR1 := Lib.hid (HR.out.old F1)
        have HF1 := Lib.hid (HF.out.trans F1)
        clear e1 e2 e1' e2' HPX HPY HF F1 HR
        generalize (wr.alloc (.cells #[.slice ax p.o.length cx, .slice ay p.b.length cy] 108)) = w1 at *
        have z0 := BZ.cell 0
        have z1 := BZ.cell 1
        simp at z0 z1
        go_wp2_with fail
        refine (whole_any _ _ p.o p.b w1 HPX1.out HPY1.out hpb).mono ?_
        rintro e w2 ⟨v2, rfl, hout, F2⟩
        have HR2 := Lib.hid (HR1.out.old F2)
        have HF2 := Lib.hid (HF1.out.trans F2)
        unfold wholeOut at hout
        have hlw1 : ∀ k, (Value.slice au j cu).ownBlock = some k → k < w1.heap.size := fun k hk => by
          obtain ⟨us, g1, _⟩ := HR1.out
          exact ((Vals.of_own g1).2 k hk).2
        have HLW := Lib.hid hlw1
        clear z0 z1 BZ HPX1 HPY1 HR1 HF1 F2 hlw1
        cases hq : attrS p.o p.b with
        | none =>
          rw [hq] at hout
          subst hout
          have hn : rdnS l = none := by rw [HN.out, HS.out, hsp.out, hq]; rfl
          have HNN := Lib.hid hn
          clear hn
          go_wp2_with fail
          refine bodyPost_ret (v := .tuple #[.slice none 0 0, .bool false]) (by simp [results, Tryz.results103, go_sem]) rfl ⟨⟨_, by rw [HNN.out]; rfl, fun ls e => by rw [HNN.out] at e; cases e⟩, HF2.out⟩
        | some x =>
          rw [hq] at hout
          have hsp1 := hsp.out
          rw [hq] at hsp1
          have hx0 : 0 < x.length ∧ x.length ≤ 1099511627776 := attr_len hq hpb
          have HO := Lib.hid hout
          obtain ⟨g2, c2, hgc, hv2⟩ : ∃ g c, w1.heap.size ≤ g ∧ v2 = .slice (some ⟨g, 0, none⟩) x.length c := by
            rcases hout.2 with ⟨rfl, h0⟩ | ⟨g, cap, cur, rfl, hg, _⟩
            · omega
            · exact ⟨g, cap, hg, rfl⟩
          subst hv2
          have HSP := Lib.hid hsp1
          clear hout hsp hsp1
          have hadd : ∀ w3, Fr (fun _ => False) w2 w3 → ∃ a5 c5 w5, (Builtin.append_ #[136, 136] 136 #[.slice au j cu, .slice (some ⟨w3.heap.size, 0, none⟩) 1 1]).run Tryz.prog (w3.alloc (.cells #[.slice (some ⟨g2, 0, none⟩) x.length c2] 23)) = .ok (.slice a5 (j + 1) c5) w5 ∧ Row w5 w.heap.size (.slice a5 (j + 1) c5) (ws ++ [x]) ∧ Fr (fun _ => False) w w5 := fun w3 F23 => by
            have F3 : Fr (fun _ => False) w2 (w3.alloc (.cells #[.slice (some ⟨g2, 0, none⟩) x.length c2] 23)) := F23.alloc _
            have hadd := Row.add (HR2.out.old F3) w3.heap.size (.slice (some ⟨g2, 0, none⟩) x.length c2) x (Blk.new w3 _ _) ((Vals.of_own HO.out).1.old F3) (fun k hk e => by
              simp only [Value.ownBlock, Option.some.injEq] at hk
              have := HLW.out k e
              omega) (by rw [HWS.out]; omega) (HF2.out.trans F3).size
            obtain ⟨a5, c5, w5, hrun, hrow, F5⟩ := hadd
            have G5 := (HF2.out.trans F3).trans' F5 (fun i hi e => by
              obtain ⟨us, g1, _⟩ := HR2.out
              have := ((Vals.of_own g1).2 i e).1
              omega)
            rw [HWS.out] at hrun hrow
            exact ⟨a5, c5, w5, hrun, hrow, G5⟩
          have HADD := Lib.hid hadd
          have hlen : (ws ++ [x]).length = j + 1 := by simp [HWS.out]
          have HLEN := Lib.hid hlen
          have hwl2 : ∀ y ∈ ws ++ [x], y.length ≤ 1099511627776 := fun y hy => by
            rcases List.mem_append.1 hy with h | h
            · exact hwl y h
            · rw [List.mem_singleton.1 h]; exact hx0.2
          have HWL2 := Lib.hid hwl2
          clear hadd hlen hwl2
          by_cases hj0 : j = 0
          · subst hj0
            have hw0 : ws = [] := List.length_eq_zero_iff.1 HWS.out
            have hnx := steps_next HS.out HSP.out (by rw [hw0]; rfl)
            have HNX := Lib.hid hnx
            obtain ⟨a5, c5, w5, hrun, hrow, G5⟩ := HADD.out w2 (Fr.refl _)
            have HRUN := Lib.hid hrun
            have HROW := Lib.hid hrow
            have HG5 := Lib.hid G5
            clear hnx hrun hrow G5
            go_wp2_with (at_builtin; refine wpList_append_run (by rfl) (.tmp 41) (.tmp 43) 136 (by rfl) _ w5 (by exact HRUN.out) ?_)
            go_roundg (l.length - (0 + 1))
            case measure => rw [HG.out]; omega
            case rel =>
              exact ⟨0 + 1, ws ++ [x], rfl, by omega, by go_num, HLEN.out, HWL2.out, HROW.out, HG5.out, HNX.out⟩
          · obtain ⟨us, g1, g2', g3⟩ := HR2.out
            obtain ⟨aR, cR, heR, hcR, hmR, hxR⟩ := (Vals.of_own g1).1
            rw [g2', HWS.out] at heR hcR hxR
            simp only [Value.slice.injEq, true_and] at heR
            obtain ⟨rfl, rfl⟩ := heR
            obtain ⟨bR, oR, rfl, hyR⟩ := hxR (by omega)
            obtain ⟨k, rfl⟩ : ∃ k, j = k + 1 := ⟨j - 1, by omega⟩
            have hws2 := HWS.out
            obtain ⟨uk, huk⟩ : ∃ u, us[k]? = some u := ⟨_, List.getElem?_eq_getElem (by omega)⟩
            obtain ⟨xk, hxk⟩ : ∃ x, ws[k]? = some x := ⟨_, List.getElem?_eq_getElem (by omega)⟩
            have ek := hyR k uk huk
            have hbk := (g3 k uk xk huk hxk).1
            have hlast : ws.getLast? = some xk := by rw [List.getLast?_eq_getElem?, hws2]; exact hxk
            have hsp2 := HSP.out
            rw [hlast] at hsp2
            obtain ⟨ak, ck, rfl, -⟩ := Vals.form hbk
            have t1 : IntKind.i64.wrap (((k + 1 : Nat) : Int) - 1) = (k : Int) := by simp [IntKind.wrap, IntKind.signed, IntKind.bits]; omega
            have t2 : (0 : Int) < ((k + 1 : Nat) : Int) := by omega
            have hck : xk.length ≤ 1099511627776 := hwl xk (List.mem_of_getElem? hxk)
            have HCM := Lib.hid (compare_any _ _ xk x w2 hbk (Vals.of_own HO.out).1 hck hx0.2)
            obtain ⟨cm, hcm⟩ : ∃ cm, cm = cmpS xk x := ⟨_, rfl⟩
            have HCC := Lib.hid hcm
            rw [← hcm] at HCM
            have hr3 : ∀ w3, Fr (fun _ => False) w2 w3 → True := fun _ _ => trivial
            have HLA := Lib.hid hlast
            clear hyR g1 g3 hxR hsp2 hwl hxk huk hlast hr3 hcm
            by_cases hge : 0 ≤ cm
            · have hn : rdnS l = none := by
                rw [HN.out, HS.out, HSP.out, HLA.out]
                simp [← HCC.out, hge]
              have HNN := Lib.hid hn
              clear hn
              go_wp2_with fail
              refine HCM.out.mono ?_
              rintro e w3 ⟨rfl, F3⟩
              go_wp2_with fail
              refine bodyPost_ret (v := .tuple #[.slice none 0 0, .bool false]) (by simp [results, Tryz.results103, go_sem]) rfl ⟨⟨_, by rw [HNN.out]; rfl, fun ls e => by rw [HNN.out] at e; cases e⟩, HF2.out.trans F3⟩
            · have hcond : (match ws.getLast? with | some y => decide (0 ≤ cmpS y x) | none => false) = false := by
                rw [HLA.out]
                simp only [← HCC.out]
                exact decide_eq_false hge
              have HNX := Lib.hid (steps_next HS.out HSP.out hcond)
              clear hcond
              go_wp2_with fail
              refine HCM.out.mono ?_
              rintro e w3 ⟨rfl, F3⟩
              obtain ⟨a5, c5, w5, hrun, hrow, G5⟩ := HADD.out w3 F3
              have HRUN := Lib.hid hrun
              have HROW := Lib.hid hrow
              have HG5 := Lib.hid G5
              clear hrun hrow G5
              go_wp2_with (at_builtin; refine wpList_append_run (by rfl) (.tmp 41) (.tmp 43) 136 (by rfl) _ w5 (by exact HRUN.out) ?_)
              go_roundg (l.length - (k + 1 + 1))
              case measure => rw [HG.out]; omega
              case rel =>
                exact ⟨k + 1 + 1, ws ++ [x], rfl, by omega, by go_num, HLEN.out, HWL2.out, HROW.out, HG5.out, HNX.out⟩
      · have hd : l.drop j = [] := List.drop_eq_nil_of_le (by omega)
        have hres : rdnS l = some ws := by rw [HN.out, HS.out, hd]; simp [stepsS]
        have HRES := Lib.hid hres
        clear hd hres
        go_wp2_with fail
        refine bodyPost_ret (v := .tuple #[.slice au j cu, .bool true]) (by simp [results, Tryz.results103, go_sem]) rfl ⟨⟨_, by rw [HRES.out]; rfl, fun ls e => ?_⟩, HF.out⟩
        rw [HRES.out] at e
        cases e
        exact HR.out
end Go.Proofs.YthamenngccaijaaGreatDoor

namespace Go.Q
open Go Go.RowKit
def nameOk (n : List (List Part)) : Bool := decide (n.length ≤ 64) && n.all (fun r => (rdnS r).isSome)
end Go.Q
namespace Go.Proofs.YthamenngccaijaaGreatDoor
open Go Go.RowKit Go.Q
set_option maxRecDepth 20000 in
set_option maxHeartbeats 2000000 in
theorem right_any (v : Value) (n : List (List Part)) (w : World) (h : NameAt w v n) (hf : ∀ r ∈ n, fewB r) :
    Calls Tryz.prog 53 #[v] w fun e w' => e = .returned (.bool (nameOk n)) ∧ Fr (fun _ => False) w w' := by
  have H := Lib.hid h
  obtain ⟨a, cap, rfl, hc, hm, -⟩ := h
  rcases Nat.lt_or_ge 64 n.length with hl | hl
  · have hn : nameOk n = false := by unfold nameOk; rw [decide_eq_false (by omega), Bool.false_and]
    have HN := Lib.hid hn
    have q1 : (64 : Int) < (n.length : Int) := by omega
    clear hn
    go_enter Tryz.func53, Tryz.ntmps53
    go_wp2_with fail
    go_ret
    exact ⟨by rw [HN.out]; rfl, Fr.refl _⟩
  · have hn : nameOk n = n.all (fun r => (rdnS r).isSome) := by unfold nameOk; rw [decide_eq_true hl, Bool.true_and]
    have HN := Lib.hid hn
    have q1 : ¬ (64 : Int) < (n.length : Int) := by omega
    clear hn
    go_enter Tryz.func53, Tryz.ntmps53
    go_wp2_with fail
    go_loopg [12] n.length (fun g i wr => ∃ j : Nat, g = n.length - j ∧ j ≤ n.length ∧ i = .int .i64 j ∧ (∀ r ∈ n.take j, (rdnS r).isSome = true) ∧ Fr (fun _ => False) w wr)
    case atStart => exact ⟨0, rfl, Nat.zero_le _, rfl, by simp, Fr.refl _⟩
    case round =>
      obtain ⟨j, hg, hj, rfl, he, F⟩ := hrel
      have HG := Lib.hid hg
      have HE := Lib.hid he
      have HF := Lib.hid F
      clear hg he
      by_cases hjl : j < n.length
      · obtain ⟨a0, cap0, he, _, _, hx⟩ := H.out.old F
        simp only [Value.slice.injEq, true_and] at he
        obtain ⟨rfl, rfl⟩ := he
        obtain ⟨b, off, rfl, hy⟩ := hx (by omega)
        obtain ⟨r, hr⟩ : ∃ r, n[j]? = some r := ⟨_, List.getElem?_eq_getElem hjl⟩
        obtain ⟨x, e1, hA⟩ := hy j r hr
        have r1 : (0 : Int) ≤ (j : Int) := by omega
        have r2 : (j : Int) < (n.length : Int) := by omega
        have HW := Lib.hid (wholesRdn_any x r wr hA (hf r (List.mem_of_getElem? hr)))
        have HR := Lib.hid hr
        clear hx hy hr hA F
        obtain ⟨o, ho⟩ : ∃ o, o = (rdnS r).isSome := ⟨_, rfl⟩
        have HO := Lib.hid ho
        rw [← ho] at HW
        clear ho
        go_wp2_with fail
        refine HW.out.mono ?_
        rintro e w2 ⟨⟨v2, rfl, -⟩, F2⟩
        have G2 := HF.out.trans F2
        clear HF F2
        cases o with
        | false =>
          have hn : n.all (fun r => (rdnS r).isSome) = false := by
            rw [List.all_eq_false]
            exact ⟨r, List.mem_of_getElem? HR.out, by rw [← HO.out]; simp⟩
          have HNN := Lib.hid hn
          clear hn
          go_wp2_with fail
          go_ret
          exact ⟨by rw [HN.out, HNN.out]; rfl, G2⟩
        | true =>
          go_wp2_with fail
          go_roundg (n.length - (j + 1))
          case measure => rw [HG.out]; omega
          case rel =>
            refine ⟨j + 1, rfl, by omega, by go_num, fun s hs => ?_, G2⟩
            rw [List.take_add_one, HR.out] at hs
            rcases List.mem_append.1 hs with h | h
            · exact HE.out s h
            · simp at h
              rw [h, ← HO.out]
      · have hall : n.all (fun r => (rdnS r).isSome) = true := by
          rw [List.all_eq_true]
          have := HE.out
          rwa [List.take_of_length_le (by omega)] at this
        have HNN := Lib.hid hall
        clear hall
        go_wp2_with fail
        go_ret
        exact ⟨by rw [HN.out, HNN.out]; rfl, F⟩
end Go.Proofs.YthamenngccaijaaGreatDoor

namespace Go.Q
open Go Go.RowKit
theorem numS_ge : ∀ {l : List UInt8} {i n v k : Nat}, numS i n l = .ok (v, k) → 31 ≤ v
  | [], _, _, _, _, h => by simp [numS] at h
  | x :: t, i, n, v, k, h => by
    simp only [numS] at h
    split at h
    · cases h
    split at h
    · split at h
      · cases h
      · simp only [Except.ok.injEq, Prod.mk.injEq] at h
        omega
    · exact numS_ge h
theorem ofNat_eq {x : UInt8} {n : Nat} (h : n = x.toNat) : UInt8.ofNat n = x := by subst h; simp
theorem tag_back {l : List UInt8} {t : Tag} {k : Nat} (h : readTagS l = .ok (t, k)) (ht : tagGood t) : k = 1 ∧ ∃ r, l = tagByte t :: r := by
  cases l with
  | nil => simp [readTagS] at h
  | cons x r =>
    have hx := x.toNat_lt
    simp only [readTagS] at h
    split at h
    · simp only [Except.ok.injEq, Prod.mk.injEq] at h
      obtain ⟨rfl, rfl⟩ := h
      refine ⟨rfl, r, ?_⟩
      congr 1
      unfold tagByte
      refine (ofNat_eq ?_).symm
      simp only [decide_eq_true_eq]
      split <;> omega
    · split at h
      · cases h
      · rename_i n k' hn
        simp only [Except.ok.injEq, Prod.mk.injEq] at h
        obtain ⟨rfl, -⟩ := h
        have := numS_ge hn
        have h3 := ht.2.2
        simp only at h3
        omega
theorem len_back {l : List UInt8} {v m : Nat} (h : readLenS l = .ok (v, m)) : l.take m = lenBytes v := by
  cases l with
  | nil => simp [readLenS] at h
  | cons x t =>
    have hx := x.toNat_lt
    simp only [readLenS] at h
    split at h
    · simp only [Except.ok.injEq, Prod.mk.injEq] at h
      obtain ⟨rfl, rfl⟩ := h
      rw [lenBytes, if_pos (by assumption), ofNat_eq rfl]
      rfl
    split at h
    · cases h
    rename_i h1 h2
    obtain ⟨n, hn⟩ : ∃ n, n = x.toNat - 128 := ⟨_, rfl⟩
    rw [← hn] at h
    have hn1 : 1 ≤ n ∧ n ≤ 4 := by omega
    have hxn : x = UInt8.ofNat (128 + n) := (ofNat_eq (by omega)).symm
    unfold longS at h
    split at h
    · cases h
    split at h
    · cases h
    split at h
    · cases h
    rename_i h3 h4 h5
    simp only [Except.ok.injEq, Prod.mk.injEq] at h
    obtain ⟨hv, rfl⟩ := h
    rw [List.take_succ_cons]
    match n, t with
    | 0, _ => omega
    | 1, [] => simp at h3
    | 1, a :: t =>
      have ha := a.toNat_lt
      simp only [List.take_succ_cons, List.take_zero, beS, List.foldl_cons, List.foldl_nil] at h4 h5 hv ⊢
      rw [lenBytes, if_neg (by omega), if_pos (by omega), ofNat_eq (x := a) (by omega), hxn]
      rfl
    | 2, [] => simp at h3
    | 2, [a] => simp at h3
    | 2, a :: b :: t =>
      have ha := a.toNat_lt
      have hb := b.toNat_lt
      simp only [List.take_succ_cons, List.take_zero, beS, List.foldl_cons, List.foldl_nil, List.head?_cons, Option.map_some, Option.some.injEq] at h4 h5 hv ⊢
      rw [lenBytes, if_neg (by omega), if_neg (by omega), if_pos (by omega), ofNat_eq (x := a) (by omega), ofNat_eq (x := b) (by omega), hxn]
      rfl
    | 3, [] => simp at h3
    | 3, [a] => simp at h3
    | 3, [a, b] => simp at h3
    | 3, a :: b :: c :: t =>
      have ha := a.toNat_lt
      have hb := b.toNat_lt
      have hc := c.toNat_lt
      simp only [List.take_succ_cons, List.take_zero, beS, List.foldl_cons, List.foldl_nil, List.head?_cons, Option.map_some, Option.some.injEq] at h4 h5 hv ⊢
      rw [lenBytes, if_neg (by omega), if_neg (by omega), if_neg (by omega), if_pos (by omega), ofNat_eq (x := a) (by omega), ofNat_eq (x := b) (by omega), ofNat_eq (x := c) (by omega), hxn]
      rfl
    | 4, [] => simp at h3
    | 4, [a] => simp at h3
    | 4, [a, b] => simp at h3
    | 4, [a, b, c] => simp at h3
    | 4, a :: b :: c :: d :: t =>
      have ha := a.toNat_lt
      have hb := b.toNat_lt
      have hc := c.toNat_lt
      have hd := d.toNat_lt
      simp only [List.take_succ_cons, List.take_zero, beS, List.foldl_cons, List.foldl_nil, List.head?_cons, Option.map_some, Option.some.injEq] at h4 h5 hv ⊢
      rw [lenBytes, if_neg (by omega), if_neg (by omega), if_neg (by omega), if_neg (by omega), ofNat_eq (x := a) (by omega), ofNat_eq (x := b) (by omega), ofNat_eq (x := c) (by omega), ofNat_eq (x := d) (by omega), hxn]
      rfl
    | n + 5, _ => omega
theorem readS_parts {l : List UInt8} {t : Tag} {n k : Nat} (h : readS l = .ok (t, n, k)) : ∃ j m, readTagS l = .ok (t, j) ∧ readLenS (l.drop j) = .ok (n, m) ∧ k = j + m := by
  unfold readS at h
  split at h
  · cases h
  · rename_i t' j hj
    split at h
    · cases h
    · rename_i n' m hm
      simp only [Except.ok.injEq, Prod.mk.injEq] at h
      obtain ⟨rfl, rfl, rfl⟩ := h
      exact ⟨j, m, hj, hm, rfl⟩
theorem readS_back {l : List UInt8} {t : Tag} {n k : Nat} (h : readS l = .ok (t, n, k)) (ht : tagGood t) : l.take k = tagByte t :: lenBytes n ∧ n ≤ 16777216 ∧ k ≤ l.length := by
  have hle := readS_le h
  obtain ⟨j, m, h1, h2, rfl⟩ := readS_parts h
  obtain ⟨rfl, r, rfl⟩ := tag_back h1 ht
  have h3 := len_back h2
  refine ⟨?_, hle.2, hle.1⟩
  rw [Nat.add_comm, List.take_succ_cons, ← h3]
  rfl
theorem take_both {α : Type} (l : List α) (k n : Nat) : l.take (k + n) = l.take k ++ (l.drop k).take n := by
  rw [List.take_add]
theorem open_back {t : Tag} {l y : List UInt8} {k : Nat} (h : openS t l = .ok (y, k)) (ht : tagGood t) : l.take k = wrapS t y ∧ y.length ≤ 16777216 ∧ k ≤ l.length ∧ y.length < k := by
  unfold openS at h
  split at h
  · cases h
  rename_i u n j hr
  split at h
  · cases h
  rename_i hu
  split at h
  · cases h
  rename_i hn
  simp only [Except.ok.injEq, Prod.mk.injEq] at h
  obtain ⟨rfl, rfl⟩ := h
  have hu' : u = t := by simpa using hu
  subst hu'
  obtain ⟨h1, h2, h3⟩ := readS_back hr ht
  have hp := readS_pos hr
  have hl : ((l.drop j).take n).length = n := by rw [List.length_take, List.length_drop]; omega
  refine ⟨?_, by rw [hl]; exact h2, by omega, by rw [hl]; omega⟩
  rw [take_both, h1, wrapS, hl]
  rfl
theorem oneE {l : List UInt8} {e : Int} (h : readS l = .error e) : oneS l = .error e := by unfold oneS; rw [h]
theorem oneEnd {l : List UInt8} {t : Tag} {n k : Nat} (h : readS l = .ok (t, n, k)) (hn : l.length - k < n) : oneS l = .error 3 := by unfold oneS; rw [h]; exact if_pos hn
theorem oneOk {l : List UInt8} {t : Tag} {n k : Nat} (h : readS l = .ok (t, n, k)) (hn : ¬ l.length - k < n) : oneS l = .ok (t, k, k + n) := by unfold oneS; rw [h]; exact if_neg hn
theorem one_alone {y : List UInt8} {t : Tag} {k n : Nat} (h : oneS y = .ok (t, k, n)) (hn : ¬ n < y.length) : singleB y = true := by
  have hp := oneS_pos h
  have h0 : y ≠ [] := by
    intro e
    subst e
    simp [oneS, readS, readTagS] at h
  unfold singleB
  rw [allS_ok h0 h, List.drop_of_length_le (by omega), allS_nil]
  rfl
def numberS : Nat → Nat → List UInt8 → Except Int (Nat × Nat)
  | _, _, [] => .error 6
  | i, n, x :: t => if i = 0 ∧ x.toNat = 128 then .error 6 else if 2147483647 < n * 128 + x.toNat % 128 then .error 2 else if x.toNat < 128 then .ok (n * 128 + x.toNat, i + 1) else numberS (i + 1) (n * 128 + x.toNat % 128) t
def addS (o : List Int) (m : Nat) : List Int := if o = [] then (if m < 80 then [((m / 40 : Nat) : Int), ((m % 40 : Nat) : Int)] else [2, (m : Int) - 80]) else o ++ [(m : Int)]
def oidStS (o : List Int) (i n : Nat) : List UInt8 → Except Int (List Int)
  | [] => if i = 0 then .ok o else .error 6
  | x :: t => if i = 0 ∧ x.toNat = 128 then .error 6 else if 2147483647 < n * 128 + x.toNat % 128 then .error 2 else if x.toNat < 128 then (if o.length = 32 then .error 2 else oidStS (addS o (n * 128 + x.toNat)) 0 0 t) else oidStS o (i + 1) (n * 128 + x.toNat % 128) t
def oidParseS (l : List UInt8) : Except Int (List Int) := if l = [] then .error 6 else oidStS [] 0 0 l
theorem oidSt_num (o : List Int) : ∀ (l : List UInt8) (i n : Nat), (i ≠ 0 ∨ l ≠ []) → oidStS o i n l = match numberS i n l with | .error e => .error e | .ok (m, k) => if o.length = 32 then .error 2 else oidStS (addS o m) 0 0 (l.drop (k - i))
  | [], i, n, h => by
    rcases h with h | h
    · simp [oidStS, numberS, h]
    · exact absurd rfl h
  | x :: t, i, n, _ => by
    simp only [oidStS, numberS]
    split
    · rfl
    split
    · rfl
    split
    · simp only [show i + 1 - i = 1 from by omega, List.drop_succ_cons, List.drop_zero]
    · have ih := oidSt_num o t (i + 1) (n * 128 + x.toNat % 128) (.inl (by omega))
      rw [ih]
      have hpos : ∀ (l : List UInt8) (i n m k : Nat), numberS i n l = .ok (m, k) → i < k := by
        intro l
        induction l with
        | nil => intro i n m k h; simp [numberS] at h
        | cons x t ih =>
          intro i n m k h
          simp only [numberS] at h
          split at h
          · cases h
          split at h
          · cases h
          split at h
          · simp only [Except.ok.injEq, Prod.mk.injEq] at h
            omega
          · have := ih _ _ _ _ h
            omega
      cases hn : numberS (i + 1) (n * 128 + x.toNat % 128) t with
      | error e => rfl
      | ok mk =>
        obtain ⟨m, k⟩ := mk
        have := hpos _ _ _ _ _ hn
        simp only [show k - i = (k - (i + 1)) + 1 from by omega, List.drop_succ_cons]
theorem numberS_back : ∀ (l : List UInt8) (i n m k : Nat), (i = 0 → n = 0) → (i ≠ 0 → n ≠ 0) → numberS i n l = .ok (m, k) → ∃ j, k = i + j ∧ base128 m = (up7 5 n).reverse ++ l.take j ∧ m ≤ 2147483647 ∧ 1 ≤ j ∧ j ≤ l.length
  | [], i, n, m, k, _, _, h => by simp [numberS] at h
  | x :: t, i, n, m, k, h1, h2, h => by
    have hx := x.toNat_lt
    simp only [numberS] at h
    split at h
    · cases h
    rename_i hf
    split at h
    · cases h
    rename_i hm
    split at h
    · rename_i hs
      simp only [Except.ok.injEq, Prod.mk.injEq] at h
      obtain ⟨rfl, rfl⟩ := h
      refine ⟨1, rfl, ?_, by omega, Nat.le_refl _, by simp⟩
      unfold base128
      rw [show (n * 128 + x.toNat) % 128 = x.toNat from by omega, show (n * 128 + x.toNat) / 128 = n from by omega, ofNat_eq rfl]
      simp
    · rename_i hs
      have hn' : n * 128 + x.toNat % 128 ≠ 0 := by
        rcases Nat.eq_zero_or_pos i with h0 | h0
        · have := h1 h0
          omega
        · have := h2 (by omega)
          omega
      obtain ⟨j, rfl, g1, g2, g3, g4⟩ := numberS_back t (i + 1) _ m k (fun h => by omega) (fun _ => hn') h
      refine ⟨j + 1, by omega, ?_, g2, by omega, by simp; omega⟩
      rw [g1]
      have e : up7 5 (n * 128 + x.toNat % 128) = x :: up7 5 n := by
        rw [up7, if_neg hn', show (n * 128 + x.toNat % 128) / 128 = n from by omega, ofNat_eq (x := x) (by omega), up7_ge 4 n (Nat.lt_of_le_of_lt (show n ≤ 16777216 by omega) (by decide))]
      rw [e]
      simp
def partBytes (o : List Int) : List UInt8 := if o = [] then [] else oidBytes o
def goodO (o : List Int) : Prop := o.length ≤ 32 ∧ (o = [] ∨ oidOk o = true)
theorem addS_good {o : List Int} (h : goodO o) (hl : o.length ≠ 32) {m : Nat} (hm : m ≤ 2147483647) : oidOk (addS o m) = true ∧ goodO (addS o m) ∧ partBytes (addS o m) = partBytes o ++ base128 m ∧ addS o m ≠ [] := by
  obtain ⟨h1, h2⟩ := h
  have key : oidOk (addS o m) = true ∧ (addS o m).length ≤ 32 ∧ partBytes (addS o m) = partBytes o ++ base128 m ∧ addS o m ≠ [] := by
    rcases h2 with rfl | h2
    · unfold addS
      rw [if_pos rfl]
      have hp : partBytes [] = [] := rfl
      rw [hp, List.nil_append]
      split
      · refine ⟨?_, by simp, ?_, by simp⟩
        · simp [oidOk, arcOk, twoOk]
          omega
        · unfold partBytes
          rw [if_neg (by simp)]
          simp only [oidBytes, Go.Proofs.YthamenngccaijaaGreatDoor.numsS, List.getD_cons_zero, List.getD_cons_succ, List.drop_succ_cons, List.drop_zero, List.flatMap_cons, List.flatMap_nil, List.append_nil]
          congr 1
          omega
      · refine ⟨?_, by simp, ?_, by simp⟩
        · simp [oidOk, arcOk, twoOk]
          omega
        · unfold partBytes
          rw [if_neg (by simp)]
          simp only [oidBytes, Go.Proofs.YthamenngccaijaaGreatDoor.numsS, List.getD_cons_zero, List.getD_cons_succ, List.drop_succ_cons, List.drop_zero, List.flatMap_cons, List.flatMap_nil, List.append_nil]
          congr 1
          omega
    · have h0 : o ≠ [] := by rintro rfl; simp [oidOk] at h2
      unfold oidOk at h2
      simp only [Bool.and_eq_true, decide_eq_true_eq] at h2
      obtain ⟨⟨⟨g1, g2⟩, g3⟩, g4⟩ := h2
      unfold addS
      rw [if_neg h0]
      obtain ⟨a, b, r, rfl⟩ : ∃ a b r, o = a :: b :: r := by
        match o, g1 with
        | a :: b :: r, _ => exact ⟨a, b, r, rfl⟩
        | [a], g1 => simp at g1
        | [], g1 => simp at g1
      have ha : arcOk (m : Int) = true := by unfold arcOk; exact decide_eq_true (by omega)
      simp only [List.length_cons] at g1 g2 hl h1
      refine ⟨?_, by simp; omega, ?_, by simp⟩
      · unfold oidOk
        simp only [Bool.and_eq_true, decide_eq_true_eq]
        refine ⟨⟨⟨by simp, by simp; omega⟩, ?_⟩, g4⟩
        rw [List.all_append, g3]
        simp [ha]
      · unfold partBytes
        rw [if_neg (by simp), if_neg (by simp)]
        simp only [oidBytes, Go.Proofs.YthamenngccaijaaGreatDoor.numsS, List.cons_append, List.getD_cons_zero, List.getD_cons_succ, List.drop_succ_cons, List.drop_zero, List.flatMap_cons, List.flatMap_append, List.flatMap_nil, List.append_nil, List.append_assoc, Int.toNat_natCast]
  exact ⟨key.1, ⟨key.2.1, .inr key.1⟩, key.2.2⟩
theorem oidSt_back : ∀ (f : Nat) (l : List UInt8) (o r : List Int), l.length ≤ f → goodO o → oidStS o 0 0 l = .ok r → goodO r ∧ partBytes r = partBytes o ++ l
  | 0, l, o, r, hf, ho, h => by
    obtain rfl : l = [] := List.length_eq_zero_iff.1 (by omega)
    simp only [oidStS, ↓reduceIte, Except.ok.injEq] at h
    subst h
    exact ⟨ho, by simp⟩
  | f + 1, [], o, r, hf, ho, h => by
    simp only [oidStS, ↓reduceIte, Except.ok.injEq] at h
    subst h
    exact ⟨ho, by simp⟩
  | f + 1, x :: t, o, r, hf, ho, h => by
    rw [oidSt_num o (x :: t) 0 0 (.inr (by simp))] at h
    cases hn : numberS 0 0 (x :: t) with
    | error e => rw [hn] at h; cases h
    | ok mk =>
      obtain ⟨m, k⟩ := mk
      rw [hn] at h
      simp only at h
      split at h
      · cases h
      rename_i hl
      obtain ⟨j, rfl, g1, g2, g3, g4⟩ := numberS_back _ 0 0 m k (fun _ => rfl) (fun h => absurd rfl h) hn
      rw [up7_zero, List.reverse_nil, List.nil_append] at g1
      rw [Nat.zero_add, Nat.sub_zero] at h
      obtain ⟨-, a2, a3, -⟩ := addS_good ho hl g2
      obtain ⟨b1, b2⟩ := oidSt_back f _ _ r (by rw [List.length_drop]; simp only [List.length_cons] at hf ⊢; omega) a2 h
      refine ⟨b1, ?_⟩
      rw [b2, a3, g1, List.append_assoc, List.take_append_drop]
theorem oidParse_back {l : List UInt8} {o : List Int} (h : oidParseS l = .ok o) : oidOk o = true ∧ oidBytes o = l := by
  unfold oidParseS at h
  split at h
  · cases h
  rename_i h0
  obtain ⟨h1, h2⟩ := oidSt_back l.length l [] o (Nat.le_refl _) ⟨by simp, .inl rfl⟩ h
  have h3 : partBytes [] = [] := rfl
  rw [h3, List.nil_append] at h2
  rcases h1.2 with rfl | h4
  · rw [h3] at h2
    exact absurd h2.symm h0
  · refine ⟨h4, ?_⟩
    rw [← h2]
    unfold partBytes
    rw [if_neg (by rintro rfl; simp [oidOk] at h4)]
def oidReadS (l : List UInt8) : Except Int (List Int × Nat) :=
  match openS (tagOf 6) l with
  | .error e => .error e
  | .ok (x, k) => match oidParseS x with
    | .error e => .error e
    | .ok o => .ok (o, k)
theorem tag6 : tagGood (tagOf 6) := ⟨by decide, by decide⟩
theorem tag16 : tagGood (tagOf 16) := ⟨by decide, by decide⟩
theorem tag17 : tagGood (tagOf 17) := ⟨by decide, by decide⟩
theorem oidRead_back {l : List UInt8} {o : List Int} {k : Nat} (h : oidReadS l = .ok (o, k)) : oidOk o = true ∧ l.take k = oidWhole o ∧ k ≤ l.length ∧ 1 ≤ k := by
  unfold oidReadS at h
  split at h
  · cases h
  rename_i x k' hx
  split at h
  · cases h
  rename_i o' ho
  simp only [Except.ok.injEq, Prod.mk.injEq] at h
  obtain ⟨rfl, rfl⟩ := h
  obtain ⟨h1, h2, h3, h4⟩ := open_back hx tag6
  obtain ⟨g1, g2⟩ := oidParse_back ho
  refine ⟨g1, ?_, h3, by omega⟩
  rw [h1, oidWhole, g2]
def partReadS (l : List UInt8) : Except Int (Part × Nat) :=
  match openS (tagOf 16) l with
  | .error e => .error e
  | .ok (y, m) => match oidReadS y with
    | .error e => .error e
    | .ok (o, q) => match oneS (y.drop q) with
      | .error e => .error e
      | .ok (_, _, n) => if n < y.length - q then .error 7 else .ok (⟨o, y.drop q⟩, m)
theorem partRead_back {l : List UInt8} {p : Part} {m : Nat} (h : partReadS l = .ok (p, m)) : attrS p.o p.b = some (l.take m) ∧ m ≤ l.length ∧ 1 ≤ m ∧ p.b.length ≤ l.length := by
  unfold partReadS at h
  split at h
  · cases h
  rename_i y m' hy
  split at h
  · cases h
  rename_i o q ho
  split at h
  · cases h
  rename_i t k n hn
  split at h
  · cases h
  rename_i hne
  simp only [Except.ok.injEq, Prod.mk.injEq] at h
  obtain ⟨rfl, rfl⟩ := h
  obtain ⟨h1, h2, h3, h4⟩ := open_back hy tag16
  obtain ⟨g1, g2, g3, g4⟩ := oidRead_back ho
  have hs := one_alone hn (by rw [List.length_drop]; exact hne)
  refine ⟨?_, h3, by omega, by simp only [List.length_drop]; omega⟩
  unfold attrS
  rw [g1, hs, if_pos (show (true && true) = true from rfl), h1, ← g2, List.take_append_drop]
def rdnGoS : Nat → List Part → List UInt8 → List UInt8 → Except Int (List Part)
  | _, out, _, [] => if out.length = 0 then .error 6 else .ok out
  | 0, _, _, _ :: _ => .error 3
  | f + 1, out, last, x :: t =>
    if out.length = 16 then .error 2 else
    match partReadS (x :: t) with
    | .error e => .error e
    | .ok (p, m) => if out.length ≠ 0 ∧ cmpS last ((x :: t).take m) = 0 then .error 10 else if out.length ≠ 0 ∧ 0 < cmpS last ((x :: t).take m) then .error 9 else rdnGoS f (out ++ [p]) ((x :: t).take m) ((x :: t).drop m)
theorem rdnGo_fuel : ∀ (f g : Nat) (out : List Part) (last l : List UInt8), l.length ≤ f → l.length ≤ g → rdnGoS f out last l = rdnGoS g out last l := by
  intro f
  induction f with
  | zero =>
    intro g out last l h _
    obtain rfl : l = [] := List.length_eq_zero_iff.1 (by omega)
    cases g <;> rfl
  | succ f ih =>
    intro g out last l h h2
    cases l with
    | nil => cases g <;> rfl
    | cons x t =>
      simp only [List.length_cons] at h h2
      obtain ⟨g, rfl⟩ : ∃ g', g = g' + 1 := ⟨g - 1, by omega⟩
      simp only [rdnGoS]
      cases hp : partReadS (x :: t) with
      | error e => rfl
      | ok v =>
        obtain ⟨p, m⟩ := v
        have hb := partRead_back hp
        have hl : ((x :: t).drop m).length ≤ t.length := by simp only [List.length_drop, List.length_cons]; omega
        simp only
        rw [ih g _ _ _ (by omega) (by omega)]
def rdnSt (out : List Part) (last l : List UInt8) : Except Int (List Part) := rdnGoS l.length out last l
theorem rdnSt_end (out : List Part) (last : List UInt8) : rdnSt out last [] = if out.length = 0 then .error 6 else .ok out := rfl
theorem rdnSt_full {out : List Part} {last l : List UInt8} (h0 : l ≠ []) (h : out.length = 16) : rdnSt out last l = .error 2 := by
  cases l with
  | nil => exact absurd rfl h0
  | cons x t => simp only [rdnSt, List.length_cons, rdnGoS, if_pos h]
theorem rdnSt_err {out : List Part} {last l : List UInt8} {e : Int} (h0 : l ≠ []) (h : out.length ≠ 16) (hp : partReadS l = .error e) : rdnSt out last l = .error e := by
  cases l with
  | nil => exact absurd rfl h0
  | cons x t => simp only [rdnSt, List.length_cons, rdnGoS, if_neg h, hp]
theorem rdnSt_ok {out : List Part} {last l : List UInt8} {p : Part} {m : Nat} (h : out.length ≠ 16) (hp : partReadS l = .ok (p, m)) : rdnSt out last l = if out.length ≠ 0 ∧ cmpS last (l.take m) = 0 then .error 10 else if out.length ≠ 0 ∧ 0 < cmpS last (l.take m) then .error 9 else rdnSt (out ++ [p]) (l.take m) (l.drop m) := by
  have hb := partRead_back hp
  cases l with
  | nil => simp at hb; omega
  | cons x t =>
    simp only [rdnSt, List.length_cons, rdnGoS, if_neg h, hp]
    rw [rdnGo_fuel t.length ((x :: t).drop m).length _ _ _ (by simp only [List.length_drop, List.length_cons]; omega) (Nat.le_refl _)]
def rdnReadS (l : List UInt8) : Except Int (List Part × Nat) :=
  match openS (tagOf 17) l with
  | .error e => .error e
  | .ok (x, k) => match rdnSt [] [] x with
    | .error e => .error e
    | .ok r => .ok (r, k)
theorem rdnRead_len {l : List UInt8} {r : List Part} {k : Nat} (h : rdnReadS l = .ok (r, k)) : k ≤ l.length ∧ 1 ≤ k := by
  unfold rdnReadS at h
  split at h
  · cases h
  rename_i x k' hx
  split at h
  · cases h
  simp only [Except.ok.injEq, Prod.mk.injEq] at h
  obtain ⟨-, rfl⟩ := h
  obtain ⟨-, -, h3, h4⟩ := open_back hx tag17
  exact ⟨h3, by omega⟩
def nameGoS : Nat → List (List Part) → List UInt8 → Except Int (List (List Part))
  | _, out, [] => .ok out
  | 0, _, _ :: _ => .error 3
  | f + 1, out, x :: t =>
    if out.length = 64 then .error 2 else
    match rdnReadS (x :: t) with
    | .error e => .error e
    | .ok (r, k) => nameGoS f (out ++ [r]) ((x :: t).drop k)
theorem nameGo_fuel : ∀ (f g : Nat) (out : List (List Part)) (l : List UInt8), l.length ≤ f → l.length ≤ g → nameGoS f out l = nameGoS g out l := by
  intro f
  induction f with
  | zero =>
    intro g out l h _
    obtain rfl : l = [] := List.length_eq_zero_iff.1 (by omega)
    cases g <;> rfl
  | succ f ih =>
    intro g out l h h2
    cases l with
    | nil => cases g <;> rfl
    | cons x t =>
      simp only [List.length_cons] at h h2
      obtain ⟨g, rfl⟩ : ∃ g', g = g' + 1 := ⟨g - 1, by omega⟩
      simp only [nameGoS]
      cases hp : rdnReadS (x :: t) with
      | error e => rfl
      | ok v =>
        obtain ⟨p, m⟩ := v
        have hb := rdnRead_len hp
        have hl : ((x :: t).drop m).length ≤ t.length := by simp only [List.length_drop, List.length_cons]; omega
        simp only
        rw [ih g _ _ (by omega) (by omega)]
def nameSt (out : List (List Part)) (l : List UInt8) : Except Int (List (List Part)) := nameGoS l.length out l
theorem nameSt_full {out : List (List Part)} {l : List UInt8} (h0 : l ≠ []) (h : out.length = 64) : nameSt out l = .error 2 := by
  cases l with
  | nil => exact absurd rfl h0
  | cons x t => simp only [nameSt, List.length_cons, nameGoS, if_pos h]
theorem nameSt_err {out : List (List Part)} {l : List UInt8} {e : Int} (h0 : l ≠ []) (h : out.length ≠ 64) (hp : rdnReadS l = .error e) : nameSt out l = .error e := by
  cases l with
  | nil => exact absurd rfl h0
  | cons x t => simp only [nameSt, List.length_cons, nameGoS, if_neg h, hp]
theorem nameSt_ok {out : List (List Part)} {l : List UInt8} {r : List Part} {k : Nat} (h : out.length ≠ 64) (hp : rdnReadS l = .ok (r, k)) : nameSt out l = nameSt (out ++ [r]) (l.drop k) := by
  have hb := rdnRead_len hp
  cases l with
  | nil => simp at hb; omega
  | cons x t =>
    simp only [nameSt, List.length_cons, nameGoS, if_neg h, hp]
    exact nameGo_fuel t.length ((x :: t).drop k).length _ _ (by simp only [List.length_drop, List.length_cons]; omega) (Nat.le_refl _)
def nameReadS (l : List UInt8) : Except Int (List (List Part) × Nat) :=
  match openS (tagOf 16) l with
  | .error e => .error e
  | .ok (x, k) => match nameSt [] x with
    | .error e => .error e
    | .ok n => .ok (n, k)
def nameParseS (l : List UInt8) : Except Int (List (List Part)) :=
  match nameReadS l with
  | .error e => .error e
  | .ok (n, k) => if k < l.length then .error 7 else .ok n
end Go.Q

namespace Go.Q
open Go Go.RowKit
abbrev str (l : List UInt8) : Value := .string ⟨l.toArray⟩
theorem ba_cat (a b : List UInt8) : (ByteArray.mk a.toArray ++ ByteArray.mk b.toArray) = ByteArray.mk (a ++ b).toArray := by
  apply ByteArray.ext
  rw [ByteArray.data_append]
  simp
end Go.Q
namespace Go.Proofs.YthamenngccaijaaGreatDoor
open Go Go.RowKit Go.Q
theorem str_of {w : World} {v : Value} {l : List UInt8} (h : Bytes w v l) : (Go.convert 23 9 v).run Tryz.prog w = .ok (str l) w := by
  obtain ⟨a, cap, rfl, hc, hm, hx⟩ := h.form
  rcases Nat.eq_zero_or_pos l.length with h0 | h0
  · obtain rfl : l = [] := List.length_eq_zero_iff.1 h0
    exact run_convert_bytes_zero w 23 5 Tryz.underlying23 Tryz.underlying5 a cap 9 Tryz.underlying9
  · obtain ⟨b, o, rfl, hy⟩ := hx h0
    exact run_convert_bytes_back w 23 9 5 _ cap l Tryz.underlying23 Tryz.underlying5 Tryz.underlying9 (fun j hj => by
      rw [show (⟨b, o, none⟩ : Addr).add j = ⟨b, o + j, none⟩ from by unfold Addr.add; split <;> simp_all]
      exact hy j _ (List.getElem?_eq_getElem hj))
theorem bytes_of_str (w : World) (l : List UInt8) (hl : l.length ≤ 1099511627776) : ∃ c w', (Go.convert 9 23 (str l)).run Tryz.prog w = .ok (.slice (some ⟨w.heap.size, 0, none⟩) l.length c) w' ∧ Bytes w' (.slice (some ⟨w.heap.size, 0, none⟩) l.length c) l ∧ Fr (fun _ => False) w w' ∧ w'.heap.size = w.heap.size + 1 := by
  have hr := Lib.run_convert_string_bytes (P := Tryz.prog) w 9 23 5 ⟨l.toArray⟩ Tryz.underlying9 Tryz.underlying23 Tryz.underlying5
  have hs : (ByteArray.mk l.toArray).size = l.length := by simp [ByteArray.size]
  rw [hs] at hr
  refine ⟨_, _, hr, ?_, ⟨rfl, rfl, rfl, by rw [Lib.bytesWorld_size]; omega, fun k hk _ => Lib.bytesWorld_at_old _ _ _ _ hk⟩, Lib.bytesWorld_size _ _ _⟩
  refine ⟨_, _, by rw [byteCells_len], ?_, ?_, fun _ => ⟨w.heap.size, 0, rfl, fun i u hu => ?_⟩⟩
  · rw [byteCells_len]; exact grownCap_ge _ _ _ _
  · exact grownCap_le_maxLen _ _ _ _ (by unfold maxLen; omega)
  · rw [byteCells_get] at hu
    cases hli : l[i]? with
    | none => rw [hli] at hu; cases hu
    | some x =>
      rw [hli] at hu
      simp only [Option.map_some, Option.some.injEq] at hu
      subst hu
      have hi := (List.getElem?_eq_some_iff.1 hli).1
      rw [Nat.zero_add, Lib.bytesWorld_cell _ _ _ _ (by rw [hs]; exact hi)]
      simp [List.getD_eq_getElem?_getD, hli]
end Go.Proofs.YthamenngccaijaaGreatDoor

namespace Go.Q
open Go Go.RowKit
def amongB (n : Int) (l : List UInt8) : Bool := l.any fun x => (x.toNat : Int) == n
abbrev printL : List UInt8 := [97, 98, 99, 100, 101, 102, 103, 104, 105, 106, 107, 108, 109, 110, 111, 112, 113, 114, 115, 116, 117, 118, 119, 120, 121, 122, 65, 66, 67, 68, 69, 70, 71, 72, 73, 74, 75, 76, 77, 78, 79, 80, 81, 82, 83, 84, 85, 86, 87, 88, 89, 90, 48, 49, 50, 51, 52, 53, 54, 55, 56, 57, 32, 39, 40, 41, 43, 44, 45, 46, 47, 58, 61, 63]
end Go.Q
namespace Go.Proofs.YthamenngccaijaaGreatDoor
open Go Go.RowKit Go.Q
end Go.Proofs.YthamenngccaijaaGreatDoor

namespace Go.Q
open Go Go.RowKit
abbrev natInts (ns : List Nat) : List Int := ns.map fun (n : Nat) => (n : Int)
end Go.Q
namespace Go.Proofs.YthamenngccaijaaGreatDoor
open Go Go.RowKit Go.Q
end Go.Proofs.YthamenngccaijaaGreatDoor

namespace Go.Q
open Go Go.RowKit
def looseHead (c : Nat) : Nat × Nat := if 240 ≤ c then (c - 240, 3) else if 224 ≤ c then (c - 224, 2) else if 192 ≤ c then (c - 192, 1) else (c, 0)
def looseAcc (n0 : Nat) (l : List UInt8) : Nat := l.foldl (fun n y => 64 * n + y.toNat % 64) n0
def looseS : Nat → List UInt8 → Option (List Nat)
  | _, [] => some []
  | 0, _ :: _ => none
  | f + 1, x :: t => if 1114111 < looseAcc (looseHead x.toNat).1 (t.take (looseHead x.toNat).2) then none else (looseS f (t.drop (looseHead x.toNat).2)).map (looseAcc (looseHead x.toNat).1 (t.take (looseHead x.toNat).2) :: ·)
def looseL (l : List UInt8) : Option (List Nat) := looseS l.length l
def wideR (b : List UInt8) : Option (List Nat) :=
  match looseL b with
  | none => none
  | some ns => if (natInts ns).all (mayS 12) = true ∧ encAll ns = b then some ns else none
end Go.Q

namespace Go.Proofs.YthamenngccaijaaGreatDoor
open Go Go.RowKit Go.Q
def WideOut (w w' : World) (b : List UInt8) (e : Ending) : Prop :=
  ∃ v, e = .returned (.tuple #[v, .bool (wideR b).isSome]) ∧ Ints w' v (natInts ((wideR b).getD [])) ∧ Fr (fun _ => False) w w'
end Go.Proofs.YthamenngccaijaaGreatDoor

namespace Go.Q
open Go Go.RowKit
def sigR (k : Int) (b : List UInt8) : Option (List Int) :=
  if kindOk k = true then
    (if k = 12 then (wideR b).map natInts else
      if k = 30 ∧ b.length % 2 = 1 then none else if (signsS k b).all (mayS k) = true then some (signsS k b) else none)
  else none
end Go.Q
namespace Go.Proofs.YthamenngccaijaaGreatDoor
open Go Go.RowKit Go.Q
def RSigOut (w w' : World) (k : Int) (b : List UInt8) (e : Ending) : Prop :=
  ∃ v, e = .returned (.tuple #[v, .bool (sigR k b).isSome]) ∧ Ints w' v ((sigR k b).getD []) ∧ Fr (fun _ => False) w w'
end Go.Proofs.YthamenngccaijaaGreatDoor

namespace Go.Proofs.YthamenngccaijaaGreatDoor
open Go Go.RowKit Go.Q
end Go.Proofs.YthamenngccaijaaGreatDoor

namespace Go.Proofs.YthamenngccaijaaGreatDoor
open Go Go.RowKit Go.Q
end Go.Proofs.YthamenngccaijaaGreatDoor

namespace Go.Proofs.YthamenngccaijaaGreatDoor
open Go Go.RowKit Go.Q
end Go.Proofs.YthamenngccaijaaGreatDoor

namespace Go.Q
open Go Go.RowKit
end Go.Q

namespace Go.Q
open Go Go.RowKit
theorem kind_contains (k : Int) : ([12, 19, 20, 22, 26, 30] : List Int).contains k = kindOk k := by
  unfold kindOk
  rw [Bool.eq_iff_iff]
  simp
def printB (n : Int) : Bool := (decide (97 ≤ n ∧ n ≤ 122) || decide (65 ≤ n ∧ n ≤ 90) || decide (48 ≤ n ∧ n ≤ 57)) || (decide (0 < n ∧ n < 128) && decide (0 ≤ Lib.indexByte [32, 39, 40, 41, 43, 44, 45, 46, 47, 58, 61, 63] (UInt8.ofNat n.toNat)))
set_option maxRecDepth 100000 in
theorem printB_small : ∀ m : Fin 256, printB (m.val : Int) = printables.contains (UInt8.ofNat m.val) := by decide +kernel
theorem printB_eq (n : Int) : printB n = mayS 19 n := by
  simp only [mayS, show ¬ ((19 : Int) = 12) from by decide, if_false, if_true]
  by_cases h : 0 ≤ n ∧ n < 256
  · obtain ⟨m, rfl⟩ : ∃ m : Nat, n = m := ⟨n.toNat, by omega⟩
    have := printB_small ⟨m, by omega⟩
    simp only at this
    rw [this, decide_eq_true h, Bool.true_and, Int.toNat_natCast]
  · rw [decide_eq_false h, Bool.false_and]
    unfold printB
    rw [decide_eq_false (by omega), decide_eq_false (by omega), decide_eq_false (by omega), decide_eq_false (by omega)]
    rfl
end Go.Q
namespace Go.Proofs.YthamenngccaijaaGreatDoor
open Go Go.RowKit Go.Q
set_option maxRecDepth 20000 in
theorem known_any (k : Int) (w : World) :
    Calls Tryz.prog 201 #[.int .i64 k] w fun e w' => e = .returned (.bool (Go.Q.kindOk k)) ∧ Fr (fun _ => False) w w' := by
  have F : Fr (fun _ => False) w (w.alloc (.cells #[.int .i64 12, .int .i64 19, .int .i64 20, .int .i64 22, .int .i64 26, .int .i64 30] 3)) := (Fr.refl w).alloc _
  have B := Blk.new w 3 #[.int .i64 12, .int .i64 19, .int .i64 20, .int .i64 22, .int .i64 26, .int .i64 30]
  have H := Go.Proofs.Tryz.slices_Contains_int w.heap.size 0 6 6 [12, 19, 20, 22, 26, 30] k _ (by simp) (by omega) (fun j hj => by
    rw [Nat.zero_add, B.cell]
    match j, hj with
    | 0, _ => rfl
    | 1, _ => rfl
    | 2, _ => rfl
    | 3, _ => rfl
    | 4, _ => rfl
    | 5, _ => rfl
    | j + 6, hj => simp at hj; omega)
  rw [show ([12, 19, 20, 22, 26, 30] : List Int).take 6 = [12, 19, 20, 22, 26, 30] from rfl, kind_contains] at H
  have HH := Lib.hid H
  have HF := Lib.hid F
  clear H F B
  go_enter Tryz.func201, Tryz.ntmps201
  go_wp2_with (first | (go_at_call 197; go_in))
  refine HH.out.mono ?_
  rintro e w' ⟨rfl, rfl⟩
  go_wp2_with fail
  go_ret
  exact ⟨rfl, HF.out⟩
theorem surr_any (n : Int) (w : World) :
    Calls Tryz.prog 248 #[.int .i64 n] w fun e w' => e = .returned (.bool (surr n)) ∧ w = w' := by
  have hs : surr n = if 55296 ≤ n then (if n ≤ 57343 then true else false) else false := by
    unfold surr
    split
    · split
      · exact decide_eq_true (by omega)
      · exact decide_eq_false (by omega)
    · exact decide_eq_false (by omega)
  have HS := Lib.hid hs
  clear hs
  rcases Int.lt_or_le n 55296 with h1 | h1
  · have q1 : ¬ (55296 : Int) ≤ n := by omega
    go_enter Tryz.func248, Tryz.ntmps248
    go_wp2_with fail
    go_ret
    exact ⟨by rw [HS.out, if_neg (by omega)]; rfl, rfl⟩
  · rcases Int.lt_or_le 57343 n with h2 | h2
    · have q2 : ¬ n ≤ (57343 : Int) := by omega
      go_enter Tryz.func248, Tryz.ntmps248
      go_wp2_with fail
      go_ret
      exact ⟨by rw [HS.out, if_pos h1, if_neg (by omega)]; rfl, rfl⟩
    · go_enter Tryz.func248, Tryz.ntmps248
      go_wp2_with fail
      go_ret
      exact ⟨by rw [HS.out, if_pos h1, if_pos h2]; rfl, rfl⟩
end Go.Proofs.YthamenngccaijaaGreatDoor

namespace Go.Proofs.YthamenngccaijaaGreatDoor
open Go Go.RowKit Go.Q
set_option maxRecDepth 20000 in
theorem printable_any (n : Int) (w : World) :
    Calls Tryz.prog 249 #[.int .i64 n] w fun e w' => e = .returned (.bool (mayS 19 n)) ∧ w = w' := by
  go_enter Tryz.func249, Tryz.ntmps249
  go_wp2_with (first | (go_at_call 285; refine (Go.Proofs.Tryz.strings_IndexByte _ _ w).mono ?_; rintro e w' ⟨rfl, rfl⟩))
  all_goals
    go_ret
    refine ⟨?_, rfl⟩
    rw [← printB_eq]
    first
    | (have e : printB n = true := by unfold printB; rw [Bool.or_eq_true]; left; simp only [Bool.or_eq_true, decide_eq_true_eq]; omega
       rw [e]; rfl)
    | (have e : printB n = false := by unfold printB; rw [decide_eq_false (by omega), decide_eq_false (by omega), decide_eq_false (by omega), decide_eq_false (by omega)]; rfl
       rw [e]; rfl)
    | (have e : printB n = decide (0 ≤ Lib.indexByte [32, 39, 40, 41, 43, 44, 45, 46, 47, 58, 61, 63] (UInt8.ofNat n.toNat)) := by
         unfold printB; rw [decide_eq_false (by omega), decide_eq_false (by omega), decide_eq_false (by omega), decide_eq_true (by omega)]; rfl
       have hw : IntKind.u8.wrap n = n := by simp [IntKind.wrap, IntKind.signed, IntKind.bits]; omega
       have e2 : UInt8.ofNat n.toNat = (IntKind.u8.wrap n).toNat.toUInt8 := by rw [hw]
       rw [e, e2]
       rfl)
set_option maxRecDepth 20000 in
set_option maxHeartbeats 1000000 in
theorem may_any (k n : Int) (w : World) :
    Calls Tryz.prog 202 #[.int .i64 k, .int .i64 n] w fun e w' => e = .returned (.bool (mayS k n)) ∧ w = w' := by
  have hk : k = 12 ∨ k = 19 ∨ k = 20 ∨ k = 22 ∨ k = 26 ∨ k = 30 ∨ (k ≠ 12 ∧ k ≠ 19 ∧ k ≠ 20 ∧ k ≠ 22 ∧ k ≠ 26 ∧ k ≠ 30) := by omega
  rcases hk with rfl | rfl | rfl | rfl | rfl | rfl | ⟨h1, h2, h3, h4, h5, h6⟩
  case' inr.inr.inr.inr.inr.inr =>
    have q1 : (k == 12) = false := beq_eq_false_iff_ne.2 h1
    have q2 : (k == 19) = false := beq_eq_false_iff_ne.2 h2
    have q3 : (k == 20) = false := beq_eq_false_iff_ne.2 h3
    have q4 : (k == 22) = false := beq_eq_false_iff_ne.2 h4
    have q5 : (k == 26) = false := beq_eq_false_iff_ne.2 h5
    have q6 : (k == 30) = false := beq_eq_false_iff_ne.2 h6
  all_goals
    go_enter Tryz.func202, Tryz.ntmps202
    go_wp2_with (first | (go_at_call 248; refine (surr_any _ w).mono ?_; rintro e w' ⟨rfl, rfl⟩) | (go_at_call 249; refine (printable_any _ w).mono ?_; rintro e w' ⟨rfl, rfl⟩))
    all_goals
      go_ret
      refine ⟨?_, rfl⟩
      refine congrArg (fun z => Ending.returned (Value.bool z)) ?_
      first
      | rfl
      | (unfold mayS; simp only [*, Int.reduceEq, if_false, if_true]; done)
      | (simp [mayS, *]; done)
      | (simp [mayS]; omega)
end Go.Proofs.YthamenngccaijaaGreatDoor

namespace Go.Q
open Go Go.RowKit
theorem Fr.putObj {S : Nat → Prop} {a w : World} (h : Fr S a w) (l : Nat) (hl : l < a.heap.size → S l) (o : Obj) : Fr S a (w.putObj l o) :=
  ⟨h.os, h.tape, h.output, by rw [World.putObj_size]; exact h.size, fun k hk hS => by
    rw [World.putObj_heap_other (fun e => hS (by subst e; exact hl hk))]
    exact h.block k hk hS⟩
def Iter (P : Program) (gf : Nat) (lb : Array Value) (xs : List Int) (cb base : Nat) (w : World) : Prop :=
  ∀ (l : Nat) (J Jx : List Int → World → Prop) (W : World), Fr (fun _ => False) w W →
    (∀ s A B, J s A → Fr (fun k => k = cb) A B → J s B) → (∀ s A B, Jx s A → Fr (fun k => k = cb) A B → Jx s B) →
    (∀ pre x rest W1, xs = pre ++ x :: rest → J pre W1 → YieldAt Fence.wide 1 P l #[.int .i64 x] W1 fun e W' =>
      (e = .returned (.bool true) ∧ J (pre ++ [x]) W' ∧ Fr (fun k => base ≤ k ∧ k ≠ cb) W1 W') ∨ (e = .returned (.bool false) ∧ Jx (pre ++ [x]) W')) →
    J [] W →
    CallsIn Fence.wide 2 P gf (#[.func (.yield l) #[] #[]] ++ lb) W fun e W' => (∃ v, e = .returned v) ∧ (J xs W' ∨ ∃ pre, pre <+: xs ∧ Jx pre W')
def seqPost (I : List Int → World → Prop) (Ix : Code → List Int → World → Prop) (base cb : Nat) (E : Nat) (xs : List Int) (W : World) : Exit → Act → World → Prop
  | .normal, _, W' => Fr (fun k => base ≤ k ∧ k ≠ cb ∧ k ≠ E ∧ k ≠ E + 1) W W' ∧ I xs W'
  | .ret, _, W' => Fr (fun k => base ≤ k ∧ k ≠ cb ∧ k ≠ E ∧ k ≠ E + 1) W W' ∧ Ix .ret xs W'
  | .exit id, _, W' => Fr (fun k => base ≤ k ∧ k ≠ cb ∧ k ≠ E ∧ k ≠ E + 1) W W' ∧ Ix (.exit id) xs W'
  | .goto t, _, W' => Fr (fun k => base ≤ k ∧ k ≠ cb ∧ k ≠ E ∧ k ≠ E + 1) W W' ∧ Ix (.goto t) xs W'
  | .panic _, _, _ => False
  | .outgrown, _, _ => False
variable {P : Program}
theorem range_law {g : Operand} {ps : Array Tmp} {assign body : Code} {Q : Exit → Act → World → Prop} {a : Act} {w : World}
    {gf : Nat} {lb : Array Value} (hg : a.eval g = .func (.func gf) #[] lb) (eg : ∀ args w, (callFunc gf args).run P w = .ok (.enter gf args) w)
    {xs : List Int} {cb base : Nat} (hcb : cb < w.heap.size) (hbase : base ≤ w.heap.size) (hseq : Iter P gf lb xs cb base w) (hps : ps.size = 1)
    (I : List Int → World → Prop) (Ix : Code → List Int → World → Prop)
    (hI : ∀ s A B, I s A → Fr (fun k => k = cb ∨ k = w.heap.size ∨ k = w.heap.size + 1) A B → I s B)
    (hIx : ∀ c s A B, Ix c s A → Fr (fun k => k = cb ∨ k = w.heap.size ∨ k = w.heap.size + 1) A B → Ix c s B) (h0 : I [] w) (a₁ : Int → Act)
    (hassign : ∀ (l : Nat) (x : Int) (W : World) (K : Act → World → Prop), K (a₁ x) W →
      assign.wpIn (Fence.wide.inRound l) 1 P (Exit.then K (fun _ _ _ => False)) { tmps := (ps.zip #[.int .i64 x]).foldl (fun t (p, v) => t.setIfInBounds p v) a.tmps, defers := [] } W)
    (hbody : ∀ (l : Nat) (pre : List Int) (x : Int) (rest : List Int) (W : World), xs = pre ++ x :: rest → I pre W → w.heap.size + 2 ≤ W.heap.size → body.wpIn (Fence.wide.inRound l) 1 P (seqPost I Ix base cb w.heap.size (pre ++ [x]) W) (a₁ x) W)
    (hdone : ∀ (D : Nat) (W : World), D = w.heap.size → I xs W → W.heap[D]? = some (.deferred (some [])) → Q .normal { a with defers := { target := .collected D, args := #[] } :: a.defers } W)
    (hstop : ∀ (D : Nat) (c : Code) (pre : List Int) (W : World), D = w.heap.size → pre <+: xs → Ix c pre W → W.heap[D]? = some (.deferred (some [])) → c.wpIn Fence.wide 3 P Q { a with defers := { target := .collected D, args := #[] } :: a.defers } W) :
    (Code.rangeFunc g ps assign body).wpIn Fence.wide 3 P Q a w := by
  refine wpIn_rangeFunc ?_
  intro fn hfn
  obtain ⟨E, hE⟩ : ∃ E, E = w.heap.size := ⟨_, rfl⟩
  obtain ⟨rec, hrec⟩ : ∃ rec : LoopState → Option Code → Loop, rec = fun st pe => { state := st, pending := pe, fn, tmps := a.tmps, params := ps, assign, body, defers := E } := ⟨_, rfl⟩
  obtain ⟨W1, hW1⟩ : ∃ W1, W1 = (w.alloc (.deferred (some []))).alloc (.loop (rec .ready none)) := ⟨_, rfl⟩
  have F1 : Fr (fun _ => False) w W1 := by rw [hW1]; exact ((Fr.refl w).alloc _).alloc _
  have hL1 : W1.heap[E + 1]? = some (.loop (rec .ready none)) := by
    rw [hW1, hE]
    have := World.alloc_heap_new (w.alloc (.deferred (some []))) (.loop (rec .ready none))
    rwa [World.size_alloc] at this
  have hK1 : W1.heap[E]? = some (.deferred (some [])) := by
    rw [hW1, hE]
    exact (Below.heap_alloc _ _ _ (by simp)).trans (World.alloc_heap_new w _)
  have hI1 : I [] W1 := hI [] w W1 h0 (F1.mono (fun _ _ h => h.elim))
  have keep : ∀ {S : Nat → Prop} {A B : World} {k : Nat} {o : Obj}, Fr S A B → A.heap[k]? = some o → ¬ S k → B.heap[k]? = some o := fun f h hS =>
    (f.block _ (Array.getElem?_eq_some_iff.1 h).1 hS).trans h
  have hcbE : cb < E := by rw [hE]; exact hcb
  refine ⟨E + 1, [{ target := .collected E, args := #[] }], W1, { target := .fn (.func gf) lb, args := #[.func (.yield (E + 1)) #[] #[]] }, W1, gf,
    #[.func (.yield (E + 1)) #[] #[]] ++ lb, W1, ?_, ?_, fun _ _ => trivial, ?_, fun _ => by decide, ?_⟩
  · rw [hW1, hrec, hE]
    exact run_enterLoop_outer _ _ _ _ _
  · simp only [resolve, hg]
    simp [go_sem]
  · simp [invoke, go_sem, eg]
  refine (hseq (E + 1)
    (fun pre W => I pre W ∧ W.heap[E + 1]? = some (.loop (rec .ready none)) ∧ W.heap[E]? = some (.deferred (some [])))
    (fun pre W => ∃ c, Ix c pre W ∧ W.heap[E + 1]? = some (.loop (rec .done (some c))) ∧ W.heap[E]? = some (.deferred (some [])))
    W1 F1 ?_ ?_ ?_ ⟨hI1, hL1, hK1⟩).mono ?_
  · rintro s A B ⟨hi, hl, hk⟩ f
    exact ⟨hI s A B hi (f.mono (fun _ _ h => .inl h)), keep f hl (by omega), keep f hk (by omega)⟩
  · rintro s A B ⟨c, hi, hl, hk⟩ f
    exact ⟨c, hIx c s A B hi (f.mono (fun _ _ h => .inl h)), keep f hl (by omega), keep f hk (by omega)⟩
  · rintro pre x rest W hxs ⟨hi, hl, hk⟩
    have hlt : E + 1 < W.heap.size := (Array.getElem?_eq_some_iff.1 hl).1
    have hy := run_yield (P := P) (args := #[.int .i64 x]) hl (by rw [hrec]; simp [hps])
    rw [hrec] at hy
    refine ⟨fn, _, assign, body, hy, roundIn_of_wpIn hfn (hassign _ x W _ ⟨_, run_beginRound hl (by rw [hrec]), ?_⟩)⟩
    obtain ⟨W2, hW2⟩ : ∃ W2, W2 = W.putObj (E + 1) (.loop { rec .ready none with state := .busy }) := ⟨_, rfl⟩
    have F2 : Fr (fun k => k = E + 1) W W2 := by rw [hW2]; exact Fr.putObj (S := fun k => k = E + 1) (Fr.refl W) (E + 1) (fun _ => rfl) _
    have hl2 : W2.heap[E + 1]? = some (.loop { rec .ready none with state := .busy }) := by rw [hW2]; exact World.putObj_heap_same hlt
    have hk2 : W2.heap[E]? = some (.deferred (some [])) := keep F2 hk (by omega)
    rw [← hW2]
    refine wpIn_mono (hbody _ pre x rest W2 hxs (hI pre W W2 hi (F2.mono (fun _ _ h => .inr (.inr (by rw [← hE]; exact h))))) (by rw [← hE]; have := F2.size; omega)) ?_
    have fin : ∀ (jump : Option Code) (W3 : World), Fr (fun k => base ≤ k ∧ k ≠ cb ∧ k ≠ E ∧ k ≠ E + 1) W2 W3 →
        (Instr.endRound (E + 1) jump).run P W3 = .ok (.bool jump.isNone) (W3.putObj (E + 1) (.loop (rec (if jump.isNone then .ready else .done) jump))) ∧
        (W3.putObj (E + 1) (.loop (rec (if jump.isNone then .ready else .done) jump))).heap[E + 1]? = some (.loop (rec (if jump.isNone then .ready else .done) jump)) ∧
        (W3.putObj (E + 1) (.loop (rec (if jump.isNone then .ready else .done) jump))).heap[E]? = some (.deferred (some [])) ∧
        Fr (fun k => k = cb ∨ k = w.heap.size ∨ k = w.heap.size + 1) W3 (W3.putObj (E + 1) (.loop (rec (if jump.isNone then .ready else .done) jump))) ∧
        Fr (fun k => base ≤ k ∧ k ≠ cb) W (W3.putObj (E + 1) (.loop (rec (if jump.isNone then .ready else .done) jump))) := fun jump W3 f3 => by
      have hl3 := keep f3 hl2 (by simp)
      have hk3 := keep f3 hk2 (by simp)
      have hr := run_endRound (P := P) jump hl3
      have f4 : Fr (fun k => k = E + 1) W3 (W3.putObj (E + 1) (.loop (rec (if jump.isNone then .ready else .done) jump))) := Fr.putObj (S := fun k => k = E + 1) (Fr.refl W3) (E + 1) (fun _ => rfl) _
      have g : ∀ k, k = E + 1 → base ≤ k ∧ k ≠ cb := fun k e => by omega
      refine ⟨?_, World.putObj_heap_same (Array.getElem?_eq_some_iff.1 hl3).1, keep f4 hk3 (by omega), f4.mono (fun _ _ h => .inr (.inr (by rw [← hE]; exact h))), ?_⟩
      · rw [hr, hrec]
      · exact ((F2.mono (fun k _ h => g k h)).trans (f3.mono (fun _ _ h => ⟨h.1, h.2.1⟩))).trans (f4.mono (fun k _ h => g k h))
    rw [← hE]
    rintro e a3 W3 hp
    cases e with
    | normal =>
      obtain ⟨f3, hi3⟩ := hp
      obtain ⟨hr, hl4, hk4, f4, f5⟩ := fin none W3 f3
      exact ⟨_, _, hr, .inl ⟨rfl, ⟨hI _ _ _ hi3 f4, hl4, hk4⟩, f5⟩⟩
    | ret =>
      obtain ⟨f3, hi3⟩ := hp
      obtain ⟨hr, hl4, hk4, f4, f5⟩ := fin (some .ret) W3 f3
      exact ⟨_, _, hr, .inr ⟨rfl, .ret, hIx _ _ _ _ hi3 f4, hl4, hk4⟩⟩
    | exit id =>
      obtain ⟨f3, hi3⟩ := hp
      obtain ⟨hr, hl4, hk4, f4, f5⟩ := fin (some (.exit id)) W3 f3
      exact ⟨_, _, hr, .inr ⟨rfl, .exit id, hIx _ _ _ _ hi3 f4, hl4, hk4⟩⟩
    | goto t =>
      obtain ⟨f3, hi3⟩ := hp
      obtain ⟨hr, hl4, hk4, f4, f5⟩ := fin (some (.goto t)) W3 f3
      exact ⟨_, _, hr, .inr ⟨rfl, .goto t, hIx _ _ _ _ hi3 f4, hl4, hk4⟩⟩
    | panic ch => exact hp.elim
    | outgrown => exact hp.elim
  · rintro e W2 ⟨⟨v, rfl⟩, (⟨hi, hl, hk⟩ | ⟨pre, hpre, c, hi, hl, hk⟩)⟩
    · have hr := run_endLoop (P := P) hl (by rw [hrec]; simp)
      rw [hrec] at hr
      refine ⟨none, _, hr, hdone E _ hE (hI _ _ _ hi ((Fr.refl W2).putObj _ (fun _ => .inr (.inr (by omega))) _)) ((World.putObj_heap_other (by omega)).trans hk)⟩
    · have hr := run_endLoop (P := P) hl (by rw [hrec]; simp)
      rw [hrec] at hr
      refine ⟨some c, _, hr, hstop E c pre _ hE hpre (hIx c _ _ _ hi ((Fr.refl W2).putObj _ (fun _ => .inr (.inr (by omega))) _)) ((World.putObj_heap_other (by omega)).trans hk)⟩
end Go.Q

namespace Go.Q
open Go Go.RowKit
def byteInts (l : List UInt8) : List Int := l.map (fun x => (x.toNat : Int))
def idx (n : Nat) : Value → Nat
  | .int _ k => n - k.toNat
  | _ => 0
end Go.Q
namespace Go.Proofs.YthamenngccaijaaGreatDoor
open Go Go.RowKit Go.Q
attribute [local go_sem] Oper.semAt_some
theorem wrap64_next {m r n : Nat} (h : m + (r + 1) = n) (hn : n ≤ maxLen) : wrap64 ((m : Int) + 1) = (m : Int) + 1 := by
  have e : maxLen = 9223372036854775807 := rfl
  rw [e] at hn
  clear e
  unfold wrap64
  omega
theorem idx_next {m r n : Nat} (h : m + (r + 1) = n) : idx n (.int .i64 ((m : Int) + 1)) < idx n (.int .i64 (m : Int)) := by
  simp only [idx]
  omega
theorem wrap64_byte (y : UInt8) : wrap64 (y.toNat : Int) = (y.toNat : Int) := by
  have := y.toNat_lt
  unfold wrap64
  omega
set_option maxRecDepth 100000 in
set_option maxHeartbeats 1000000 in
theorem single1_iter (v : Value) (l : List UInt8) (cb base : Nat) (w : World) (hc : w.cell? ⟨cb, 0, none⟩ = some v) (hv : Bytes w v l) (hoff : Off v l.length (fun k => base ≤ k)) :
    Iter Tryz.prog 284 #[pt cb] (byteInts l) cb base w := by
  intro lp J Jx W hW hJ hJx hY h0
  obtain ⟨a, cap, rfl, hcap, hmax, hx⟩ := Vals.form hv
  have HX := Lib.hid hx
  have hc1 := hW.cell hc (fun h => h)
  refine callsIn_of_wp Tryz.func284 rfl trivial ?_ rfl
  simp only [Tryz.ntmps284, List.size_toArray, List.length_cons, List.length_nil, Nat.reduceAdd, Nat.reduceSub, Array.replicate_succ, Array.replicate_zero, List.push_toArray, List.append_toArray, List.nil_append, List.cons_append]
  gi_wp2
  gi_loopw [7] (fun i wr => ∃ (pre rest : List Int), i = .int .i64 pre.length ∧ byteInts l = pre ++ rest ∧ Fr (fun k => base ≤ k ∧ k ≠ cb) W wr ∧ J pre wr) (fun i _ => idx l.length i)
  case atStart => exact ⟨[], byteInts l, rfl, rfl, Fr.refl _, h0⟩
  case round =>
    obtain ⟨pre, rest, rfl, hxs, F, hj⟩ := hrel
    have hlen : pre.length + rest.length = l.length := by
      have := congrArg List.length hxs
      simp only [byteInts, List.length_map, List.length_append] at this
      omega
    cases rest with
    | nil =>
      have q1 : ¬ (pre.length : Int) < (l.length : Int) := by simp only [List.length_nil] at hlen; omega
      gi_wp2
      go_end0
      exact ⟨⟨_, rfl⟩, .inl hj⟩
    | cons x rest =>
      simp only [List.length_cons] at hlen
      obtain ⟨y, hy, rfl⟩ : ∃ y : UInt8, l[pre.length]? = some y ∧ x = (y.toNat : Int) := by
        have h : (byteInts l)[pre.length]? = some x := by rw [hxs, List.getElem?_append_right (Nat.le_refl _), Nat.sub_self]; rfl
        unfold byteInts at h
        rw [List.getElem?_map] at h
        cases hq : l[pre.length]? with
        | none => rw [hq] at h; cases h
        | some y => rw [hq] at h; simp only [Option.map_some, Option.some.injEq] at h; exact ⟨y, rfl, h.symm⟩
      obtain ⟨b, o, rfl, hcell⟩ := HX.out (by omega)
      have hb : ¬ base ≤ b := hoff (by omega) b rfl
      have e1 := F.cell (hW.cell (hcell _ y hy) (fun h => h)) (fun h => hb h.1)
      have q1 : (pre.length : Int) < (l.length : Int) := by omega
      have q2 : (0 : Int) ≤ (pre.length : Int) := by omega
      have q4 : wrap64 ((pre.length : Int) + 1) = (pre.length : Int) + 1 := wrap64_next hlen (Nat.le_trans hcap hmax)
      have q3 : wrap64 (y.toNat : Int) = (y.toNat : Int) := wrap64_byte y
      obtain ⟨fn, tmps, assign, body, hyy, hR⟩ := hY pre _ rest wr hxs hj
      clear hx hcell
      gi_wp2
      refine hR.mono ?_
      rintro e W3 (⟨rfl, hJ3, F3⟩ | ⟨rfl, hJx3⟩)
      · gi_wp2
        go_roundw
        case rel => exact ⟨pre ++ [(y.toNat : Int)], rest, by rw [q4]; simp, by simp [hxs], F.trans F3, hJ3⟩
        case measure => rw [q4]; exact idx_next hlen
      · gi_wp2
        refine bodyPost_ret (results_none rfl _ _ _) rfl ?_
        exact ⟨⟨_, rfl⟩, .inr ⟨_, ⟨rest, by simp [hxs]⟩, hJx3⟩⟩
end Go.Proofs.YthamenngccaijaaGreatDoor

namespace Go.Q
open Go Go.RowKit
def cellLen (w : World) (cb : Nat) : Nat :=
  match w.cell? ⟨cb, 0, none⟩ with
  | some (.slice _ n _) => n
  | _ => 0
theorem cellLen_of {w : World} {cb : Nat} {t : TypeId} {a : Option Addr} {n c : Nat} (B : Blk w cb t #[.slice a n c]) : cellLen w cb = n := by
  have := B.cell 0
  simp at this
  unfold cellLen
  rw [this]
theorem slice_on {W : World} {cb base b o cap n : Nat} {ty : TypeId} {u0 : Value} {r : List UInt8} (B : Blk W cb ty #[u0]) (hr : Bytes W (.slice (some ⟨b, o, none⟩) n cap) r) (hb : ¬ base ≤ b) (hcb : base ≤ cb) (k m c' : Nat) (a' : Option Addr) (hm : m + k = n)
    (ha : 0 < m → a' = some ⟨b, o + k, none⟩) (hc : m ≤ c') (hmax : c' ≤ maxLen) :
    Blk (W.setCell ⟨cb, 0, none⟩ (.slice a' m c')) cb ty #[.slice a' m c'] ∧ Bytes (W.setCell ⟨cb, 0, none⟩ (.slice a' m c')) (.slice a' m c') (r.drop k) ∧ Off (.slice a' m c') m (fun k => base ≤ k) ∧ Fr (fun k => k = cb) W (W.setCell ⟨cb, 0, none⟩ (.slice a' m c')) := by
  have f : Fr (fun k => k = cb) W (W.setCell ⟨cb, 0, none⟩ (.slice a' m c')) := Fr.setCell (S := fun k => k = cb) (p := ⟨cb, 0, none⟩) (Fr.refl W) (fun _ => rfl) _
  have hoff : Off (.slice a' m c') m (fun k => base ≤ k) := fun h0 j hj => by
    rw [ha h0] at hj
    simp only [Value.ownBlock, Option.some.injEq] at hj
    omega
  have hlen : r.length = n := by
    obtain ⟨a, c, he, _⟩ := hr.form
    simp only [Value.slice.injEq] at he
    exact he.2.1.symm
  have hs : Bytes W (.slice a' m c') (r.drop k) := by
    have h := Vals.sub hr k n (by omega) (Nat.le_refl _) a' c' (fun h b0 o0 e => by
      simp only [Option.some.injEq, Addr.mk.injEq, and_true] at e
      obtain ⟨rfl, rfl⟩ := e
      exact ha (by omega)) (by omega) hmax
    rw [Go.Proofs.YthamenngccaijaaGreatDoor.byteCells_drop, Go.Proofs.YthamenngccaijaaGreatDoor.byteCells_take, show n - k = m from by omega, List.take_of_length_le (by rw [List.length_drop]; omega)] at h
    exact h
  have hrl : (r.drop k).length = m := by rw [List.length_drop]; omega
  refine ⟨?_, hs.fr f (fun h0 j hj e => ?_), hoff, f⟩
  · have := B.set 0 (.slice a' m c')
    simpa using this
  · rw [byteCells_len, hrl] at h0
    exact hoff h0 j hj (by omega)
end Go.Q
namespace Go.Proofs.YthamenngccaijaaGreatDoor
open Go Go.RowKit Go.Q
attribute [local go_sem] Oper.semAt_some
theorem pair_facts (x y : UInt8) : IntKind.i64.wrap (x.toNat : Int) = (x.toNat : Int) ∧ IntKind.i64.wrap (y.toNat : Int) = (y.toNat : Int) ∧ IntKind.i64.wrap ((x.toNat : Int) * 256) = (x.toNat : Int) * 256 ∧ bits .or .i64 ((x.toNat : Int) * 256) (y.toNat : Int) = ((x.toNat * 256 + y.toNat : Nat) : Int) := by
  have hx := x.toNat_lt
  have hy := y.toNat_lt
  generalize x.toNat = X at *
  generalize y.toNat = Y at *
  refine ⟨by simp [IntKind.wrap, IntKind.signed, IntKind.bits]; omega, by simp [IntKind.wrap, IntKind.signed, IntKind.bits]; omega, by simp [IntKind.wrap, IntKind.signed, IntKind.bits]; omega, ?_⟩
  exact or8 X Y (by omega) (by omega)
set_option maxRecDepth 100000 in
set_option maxHeartbeats 1000000 in
theorem pairs1_iter (v : Value) (l : List UInt8) (cb base : Nat) (w : World) (hc : Blk w cb 23 #[v]) (hv : Bytes w v l) (hoff : Off v l.length (fun k => base ≤ k)) (hcb : base ≤ cb) :
    Iter Tryz.prog 283 #[pt cb] (pairsS l) cb base w := by
  intro lp J Jx W hW hJ hJx hY h0
  have BW := hc.fr hW (fun h => h)
  have hv1 := hv.old hW
  refine callsIn_of_wp Tryz.func283 rfl trivial ?_ rfl
  simp only [Tryz.ntmps283, List.size_toArray, List.length_cons, List.length_nil, Nat.reduceAdd, Nat.reduceSub, Array.replicate_succ, Array.replicate_zero, List.push_toArray, List.append_toArray, List.nil_append, List.cons_append]
  gi_wp2
  gi_loopw [3] (fun _ wr => ∃ (pre : List Int) (r : List UInt8) (u : Value), pairsS l = pre ++ pairsS r ∧ Blk wr cb 23 #[u] ∧ Bytes wr u r ∧ Off u r.length (fun k => base ≤ k) ∧ J pre wr) (fun _ wr => cellLen wr cb)
  case atStart => exact ⟨[], l, v, rfl, BW, hv1, hoff, h0⟩
  case round =>
    obtain ⟨pre, r, u, hxs, B, hr, ho, hj⟩ := hrel
    rcases r with _ | ⟨x, _ | ⟨y, t⟩⟩
    · obtain ⟨a, cap, rfl, hcap, hmax, hx⟩ := Vals.form hr
      have e0 := B.cell 0
      simp at e0
      simp only [List.length_nil, pairsS, List.append_nil] at *
      gi_wp2
      go_end0
      exact ⟨⟨_, rfl⟩, .inl (by rw [hxs]; exact hj)⟩
    · obtain ⟨a, cap, rfl, hcap, hmax, hx⟩ := Vals.form hr
      have e0 := B.cell 0
      simp at e0
      simp only [List.length_cons, List.length_nil, pairsS, Nat.zero_add] at *
      obtain ⟨fn, tmps, assign, body, hyy, hR⟩ := hY pre _ [] wr hxs hj
      gi_wp2
      refine hR.mono ?_
      rintro e W3 (⟨rfl, hJ3, F3⟩ | ⟨rfl, hJx3⟩)
      · gi_wp2
        go_end0
        exact ⟨⟨_, rfl⟩, .inl (by rw [hxs]; exact hJ3)⟩
      · gi_wp2
        go_end0
        exact ⟨⟨_, rfl⟩, .inr ⟨_, ⟨[], by simp [hxs]⟩, hJx3⟩⟩
    · obtain ⟨a, cap, rfl, hcap, hmax, hx⟩ := Vals.form hr
      have e0 := B.cell 0
      have f0 := B.frozen 0
      simp at e0
      simp only [List.length_cons, pairsS] at *
      obtain ⟨b, o, rfl, hcell⟩ := hx (by omega)
      have c0 := hcell 0 x rfl
      have c1 := hcell 1 y rfl
      rw [Nat.add_zero] at c0
      have q1 : (1 : Int) < ((t.length + 1 + 1 : Nat) : Int) := by omega
      have q2 : (0 : Int) < ((t.length + 1 + 1 : Nat) : Int) := by omega
      obtain ⟨fn, tmps, assign, body, hyy, hR⟩ := hY pre _ _ wr.drew hxs (hJ _ _ _ hj (Fr.refl wr).drew)
      rw [show ((x.toNat * 256 + y.toNat : Nat) : Int) = (x.toNat : Int) * 256 + (y.toNat : Int) from by omega] at hyy
      have hR2 := hR.mono (R' := fun e W' => ∃ z : Bool, e = .returned (.bool z) ∧ (z = true ∧ J (pre ++ [((x.toNat * 256 + y.toNat : Nat) : Int)]) W' ∧ Fr (fun k => base ≤ k ∧ k ≠ cb) wr.drew W' ∨ z = false ∧ Jx (pre ++ [((x.toNat * 256 + y.toNat : Nat) : Int)]) W')) (by
        rintro e W' (⟨h1, h2⟩ | ⟨h1, h2⟩)
        · exact ⟨true, h1, .inl ⟨rfl, h2⟩⟩
        · exact ⟨false, h1, .inr ⟨rfl, h2⟩⟩)
      have HR2 := Lib.hid hR2
      obtain ⟨q3, q4, q5, q6⟩ := pair_facts x y
      clear hR hR2
      have hmx : Tryz.prog.follows .mixedOrders = true := by kernel_rfl
      gi_wp2
      gi_region_with_o (refine HR2.out.mono ?_; rintro e W3 ⟨z, rfl, hz⟩)
      all_goals
        rcases hz with ⟨rfl, hJ3, F3⟩ | ⟨rfl, hJx3⟩
        · have B3 := B.drew.fr F3 (fun h => h.2 rfl)
          have e3 := B3.cell 0
          have f3 := B3.frozen 0
          simp at e3
          have hb : ¬ base ≤ b := ho (by omega) b rfl
          have hr3 : Bytes W3 (.slice (some ⟨b, o, none⟩) (t.length + 1 + 1) cap) (x :: y :: t) := (hr.old (Fr.refl wr).drew).fr F3 (fun h0 k hk hs => by
            simp only [Value.ownBlock, Option.some.injEq] at hk
            subst hk
            exact hb hs.1)
          have HJ3 := Lib.hid hJ3
          have z1 : (2 : Int) ≤ ((t.length + 1 + 1 : Nat) : Int) := by omega
          clear hyy hJ3 hx hcell
          gi_wp2
          obtain ⟨B4, hr4, ho4, F4⟩ := slice_on B3 hr3 hb hcb 2 t.length (cap - 2) (if cap = 2 then some ⟨b, o, none⟩ else some ⟨b, o + 2, none⟩) rfl (fun h => if_neg (by omega)) (by omega) (by omega)
          go_roundw
          case rel => exact ⟨pre ++ [((x.toNat * 256 + y.toNat : Nat) : Int)], t, _, by simp [hxs], B4, hr4, ho4, hJ _ _ _ HJ3.out F4⟩
          case measure =>
            rw [cellLen_of B4, cellLen_of B]
            omega
        · gi_wp2
          refine bodyPost_ret (results_none rfl _ _ _) rfl ?_
          exact ⟨⟨_, rfl⟩, .inr ⟨_, ⟨pairsS t, by simp [hxs]⟩, hJx3⟩⟩
end Go.Proofs.YthamenngccaijaaGreatDoor

namespace Go.Proofs
open Go.Shelf
def Tryz.lays7x32_ren : Go.Shelf.Ren := ⟨fun | 32 => 282 | 49 => 311 | n => n, fun | 30 => 23 | 21 => 21 | 3 => 3 | 0 => 0 | 5 => 5 | 4 => 4 | 33 => 327 | 66 => 353 | 25 => 243 | 69 => 356 | 68 => 355 | n => n, fun | 2 => 4 | 3 => 5 | n => n⟩
theorem Tryz.lays7x32 : Go.Proofs.Lays7.n32 Tryz.prog Tryz.lays7x32_ren := {
  mixed := by kernel_rfl
  f32 := Tryz.func282.trans (congrArg some (by kernel_rfl))
  f49 := Tryz.func311.trans (congrArg some (by kernel_rfl))
  t0 := Tryz.underlying0
  a0 := Tryz.isAgg0
  z0 := Tryz.sizeOf0
  v0 := Tryz.zeroValue0
  i0 := by kernel_rfl
  t3 := Tryz.underlying3
  a3 := Tryz.isAgg3
  z3 := Tryz.sizeOf3
  v3 := Tryz.zeroValue3
  i3 := by kernel_rfl
  t4 := Tryz.underlying4
  a4 := Tryz.isAgg4
  z4 := Tryz.sizeOf4
  v4 := Tryz.zeroValue4
  i4 := by kernel_rfl
  t5 := Tryz.underlying5
  a5 := Tryz.isAgg5
  z5 := Tryz.sizeOf5
  v5 := Tryz.zeroValue5
  i5 := by kernel_rfl
  t21 := Tryz.underlying21
  a21 := Tryz.isAgg21
  z21 := Tryz.sizeOf21
  v21 := Tryz.zeroValue21
  i21 := by kernel_rfl
  t25 := Tryz.underlying243
  a25 := Tryz.isAgg243
  z25 := Tryz.sizeOf243
  v25 := Tryz.zeroValue243
  i25 := by kernel_rfl
  t30 := Tryz.underlying23
  a30 := Tryz.isAgg23
  z30 := Tryz.sizeOf23
  v30 := Tryz.zeroValue23
  i30 := by kernel_rfl
  t33 := Tryz.underlying327
  a33 := Tryz.isAgg327
  z33 := Tryz.sizeOf327
  v33 := Tryz.zeroValue327
  i33 := by kernel_rfl
  t66 := Tryz.underlying353
  a66 := Tryz.isAgg353
  z66 := Tryz.sizeOf353
  t68 := Tryz.underlying355
  a68 := Tryz.isAgg355
  z68 := Tryz.sizeOf355
  v68 := Tryz.zeroValue355
  i68 := by kernel_rfl
  t69 := Tryz.underlying356
  a69 := Tryz.isAgg356
  z69 := Tryz.sizeOf356
  v69 := Tryz.zeroValue356
  i69 := by kernel_rfl
  g2 := by kernel_rfl
  g3 := by kernel_rfl }
open Go.RowKit Go.Lib in
theorem Tryz.utf8_DecodeRune (s : ByteArray) (b off cap : Nat) (w : World) (hT : Lib.Utf8Tabs 4 5 w) (hp : ∀ j, j < s.size → w.cell? ⟨b, off + j, none⟩ = some (.int .u8 (s.get! j).toNat)) :
    Calls Tryz.prog 282 #[.slice (some ⟨b, off, none⟩) s.size cap] w fun e w' => e = .returned (.tuple #[.int .i32 (Lib.decodeGo s).1, .int .i64 (Lib.decodeGo s).2]) ∧ Below w.heap.size w w' := Any7.utf8_DecodeRune Tryz.lays7x32 s b off cap w hT hp
end Go.Proofs

namespace Go.Q
open Go Go.RowKit
abbrev Tabs (w : World) : Prop := Lib.Utf8Tabs 4 5 w
theorem Tabs.fr {S : Nat → Prop} {w w' : World} (h : Tabs w) (f : Fr S w w') (h1 : ¬ S 4) (h2 : ¬ S 5) : Tabs w' :=
  ⟨fun c hc => f.cell (h.1 c hc) h1, fun i hi => ⟨f.cell (h.2 i hi).1 h2, f.cell (h.2 i hi).2 h2⟩⟩
theorem Tabs.old {w w' : World} (h : Tabs w) (f : Fr (fun _ => False) w w') : Tabs w' := h.fr f (fun h => h) (fun h => h)
theorem Tabs.size {w : World} (h : Tabs w) : 5 < w.heap.size := World.block_lt_of_cell? w _ (h.2 0 (by omega)).1
theorem bytes_get (l : List UInt8) (i : Nat) : (ByteArray.mk l.toArray).get! i = l.getD i 0 := by
  show (l.toArray)[i]! = l.getD i 0
  rw [List.getElem!_toArray, List.getElem!_eq_getElem?_getD, List.getD_eq_getElem?_getD]
  rfl
theorem decodeGo_list {l : List UInt8} (h : l ≠ []) : Lib.decodeGo ⟨l.toArray⟩ = decS l := by
  have hs : (ByteArray.mk l.toArray).size = l.length := by simp [ByteArray.size]
  have h0 : l.length ≠ 0 := fun e => h (List.length_eq_zero_iff.1 e)
  unfold Lib.decodeGo decS
  rw [hs, if_neg h0, Lib.decode_at, hs, bytes_get, bytes_get, bytes_get, bytes_get]
  rfl
set_option maxRecDepth 100000 in
theorem decN_bound (n b0 b1 b2 b3 : Nat) (hn : 1 ≤ n) : 1 ≤ (Lib.decodeN n b0 b1 b2 b3).2 ∧ (Lib.decodeN n b0 b1 b2 b3).2 ≤ n ∧ (Lib.decodeN n b0 b1 b2 b3).1 < 2147483648 := by
  unfold Lib.decodeN
  repeat' split
  all_goals (simp only; omega)
theorem decS_bound {l : List UInt8} (h : l ≠ []) : 1 ≤ (decS l).2 ∧ (decS l).2 ≤ l.length ∧ (decS l).1 < 2147483648 := by
  have h0 : l.length ≠ 0 := fun e => h (List.length_eq_zero_iff.1 e)
  exact decN_bound _ _ _ _ _ (by omega)
end Go.Q
namespace Go.Proofs.YthamenngccaijaaGreatDoor
open Go Go.RowKit Go.Q
theorem decode_any (v : Value) (l : List UInt8) (w : World) (hv : Bytes w v l) (h : l ≠ []) (hT : Tabs w) :
    Calls Tryz.prog 282 #[v] w fun e w' => e = .returned (.tuple #[.int .i32 (decS l).1, .int .i64 (decS l).2]) ∧ Fr (fun _ => False) w w' := by
  have h0 : l.length ≠ 0 := fun e => h (List.length_eq_zero_iff.1 e)
  obtain ⟨a, cap, rfl, _, _, hx⟩ := hv.form
  obtain ⟨b, o, rfl, hc⟩ := hx (by omega)
  have hs : (ByteArray.mk l.toArray).size = l.length := by simp [ByteArray.size]
  have H := Go.Proofs.Tryz.utf8_DecodeRune ⟨l.toArray⟩ b o cap w hT (fun j hj => by
    rw [hs] at hj
    rw [bytes_get, List.getD_eq_getElem?_getD, List.getElem?_eq_getElem hj]
    exact hc j _ (List.getElem?_eq_getElem hj))
  rw [decodeGo_list h, hs] at H
  refine H.mono ?_
  rintro e w' ⟨rfl, hb⟩
  exact ⟨rfl, Fr.of_below hb⟩
end Go.Proofs.YthamenngccaijaaGreatDoor

namespace Go.Q
open Go Go.RowKit
def signAt (l : List UInt8) : Int := if (decS l).1 = 65533 ∧ (decS l).2 ≤ 1 then -1 else ((decS l).1 : Int)
theorem wideS_cons (f : Nat) (x : UInt8) (t : List UInt8) : wideS (f + 1) (x :: t) = signAt (x :: t) :: wideS f ((x :: t).drop (decS (x :: t)).2) := rfl
end Go.Q
namespace Go.Proofs.YthamenngccaijaaGreatDoor
open Go Go.RowKit Go.Q
attribute [local go_sem] Oper.semAt_some
set_option maxRecDepth 100000 in
set_option maxHeartbeats 1000000 in
theorem wide1_iter (v : Value) (l : List UInt8) (cb base : Nat) (w : World) (hc : Blk w cb 23 #[v]) (hv : Bytes w v l) (hoff : Off v l.length (fun k => base ≤ k)) (hcb : base ≤ cb) (hT : Tabs w) (h2 : 5 < base) :
    Iter Tryz.prog 281 #[pt cb] (wideS l.length l) cb base w := by
  intro lp J Jx W hW hJ hJx hY h0
  have BW := hc.fr hW (fun h => h)
  have hv1 := hv.old hW
  have hT1 := hT.old hW
  refine callsIn_of_wp Tryz.func281 rfl trivial ?_ rfl
  simp only [Tryz.ntmps281, List.size_toArray, List.length_cons, List.length_nil, Nat.reduceAdd, Nat.reduceSub, Array.replicate_succ, Array.replicate_zero, List.push_toArray, List.append_toArray, List.nil_append, List.cons_append]
  gi_wp2
  gi_loopw [6] (fun _ wr => ∃ (pre : List Int) (r : List UInt8) (u : Value) (f : Nat), wideS l.length l = pre ++ wideS f r ∧ r.length ≤ f ∧ Blk wr cb 23 #[u] ∧ Bytes wr u r ∧ Off u r.length (fun k => base ≤ k) ∧ Tabs wr ∧ J pre wr) (fun _ wr => cellLen wr cb)
  case atStart => exact ⟨[], l, v, l.length, rfl, Nat.le_refl _, BW, hv1, hoff, hT1, h0⟩
  case round =>
    obtain ⟨pre, r, u, f, hxs, hf, B, hr, ho, hTr, hj⟩ := hrel
    rcases r with _ | ⟨x, t⟩
    · obtain ⟨a, cap, rfl, hcap, hmax, hx⟩ := Vals.form hr
      have e0 := B.cell 0
      simp at e0
      simp only [List.length_nil] at *
      have hxn : wideS l.length l = pre := by rw [hxs]; cases f <;> simp [wideS]
      gi_wp2
      go_end0
      exact ⟨⟨_, rfl⟩, .inl (by rw [hxn]; exact hj)⟩
    · obtain ⟨f, rfl⟩ : ∃ g, f = g + 1 := ⟨f - 1, by simp only [List.length_cons] at hf; omega⟩
      rw [wideS_cons] at hxs
      obtain ⟨b1, b2, b3⟩ := decS_bound (l := x :: t) (by simp)
      have HD := Lib.hid (decode_any u (x :: t) wr hr (by simp) hTr)
      obtain ⟨a, cap, rfl, hcap, hmax, hx⟩ := Vals.form hr
      obtain ⟨b, o, rfl, hcell⟩ := hx (by simp)
      obtain ⟨k, hk⟩ : ∃ k, k = (decS (x :: t)).2 := ⟨_, rfl⟩
      obtain ⟨R, hR⟩ : ∃ R, R = (decS (x :: t)).1 := ⟨_, rfl⟩
      have hsg : signAt (x :: t) = if R = 65533 ∧ k ≤ 1 then -1 else (R : Int) := by rw [hk, hR]; rfl
      obtain ⟨n, hn⟩ : ∃ n, n = (x :: t).length := ⟨_, rfl⟩
      obtain ⟨r, hr0⟩ : ∃ r, r = x :: t := ⟨_, rfl⟩
      rw [← hk] at hxs b1 b2 HD
      rw [← hR] at b3 HD
      rw [← hn] at hf hcap B hr ho hx b2 HD
      rw [← hr0] at hxs hr hn hsg
      have e0 := B.cell 0
      simp at e0
      have hn0 : 0 < n := by rw [hn, hr0]; simp
      have q1 : (0 : Int) < (n : Int) := by omega
      have hwr : wrap64 (R : Int) = (R : Int) := wrap_nat R (by omega)
      have hz1 : (k : Int) ≤ (n : Int) := by omega
      have hz2 : (0 : Int) ≤ (k : Int) := by omega
      have hz3 : k ≤ n := b2
      have hz4 : k ≤ cap := by omega
      have hz5 : (n : Int) ≤ (cap : Int) := by omega
      have HN := Lib.hid hn
      clear hr0 hk hR hx hcell hn
      have hcases : (R = 65533 ∧ k ≤ 1 ∧ signAt r = -1) ∨ (R = 65533 ∧ ¬ k ≤ 1 ∧ signAt r = 65533) ∨ (R ≠ 65533 ∧ signAt r = (R : Int)) := by
        by_cases h1 : R = 65533
        · by_cases h3 : k ≤ 1
          · exact .inl ⟨h1, h3, by rw [hsg, if_pos ⟨h1, h3⟩]⟩
          · exact .inr (.inl ⟨h1, h3, by rw [hsg, if_neg (fun h => h3 h.2), h1]; rfl⟩)
        · exact .inr (.inr ⟨h1, by rw [hsg, if_neg (fun h => h1 h.1)]⟩)
      have hb : ¬ base ≤ b := ho hn0 b rfl
      clear hsg
      rcases hcases with ⟨h1, h3, hs⟩ | ⟨h1, h3, hs⟩ | ⟨h1, hs⟩
      case' inl =>
        subst h1
        have q2 : (k : Int) ≤ 1 := by omega
      case' inr.inl =>
        subst h1
        have q2 : ¬ (k : Int) ≤ 1 := by omega
      case' inr.inr =>
        have q2 : ((R : Int) == 65533) = false := beq_eq_false_iff_ne.2 (by omega)
        have q3 : (R == 65533) = false := beq_eq_false_iff_ne.2 h1
      all_goals
        gi_wp2_with (refine ⟨trivial, ?_⟩; gi_at_call 282; refine (callsIn_wide.2 HD.out).mono ?_; rintro e w2 ⟨rfl, F2⟩; have B2 := B.fr F2 (fun h => h); have e2 := B2.cell 0; have f2 := B2.frozen 0; simp at e2; obtain ⟨fn, tmps, assign, body, hyy, hR⟩ := hY pre _ _ w2 hxs (hJ _ _ _ hj (F2.mono (fun _ _ h => h.elim))); rw [hs] at hyy)
        refine hR.mono ?_
        rintro e W3 (⟨rfl, hJ3, F3⟩ | ⟨rfl, hJx3⟩)
        · have B3 := B2.fr F3 (fun h => h.2 rfl)
          have e3 := B3.cell 0
          have f3 := B3.frozen 0
          simp at e3
          have hr3 : Bytes W3 (.slice (some ⟨b, o, none⟩) n cap) r := (hr.old F2).fr F3 (fun h0 k hk hs => by
            simp only [Value.ownBlock, Option.some.injEq] at hk
            subst hk
            exact hb hs.1)
          have hT3 := (hTr.old F2).fr F3 (fun h => by omega) (fun h => by omega)
          have HT3 := Lib.hid hT3
          have HJ3 := Lib.hid hJ3
          clear hyy hJ3 hT3
          gi_wp2
          obtain ⟨B4, hr4, ho4, F4⟩ := slice_on B3 hr3 hb hcb k (n - k) (cap - k) (if cap = k then some ⟨b, o, none⟩ else some ⟨b, o + k, none⟩) (by omega) (fun h => if_neg (by omega)) (by omega) (by omega)
          have hdl : (r.drop k).length = n - k := by rw [List.length_drop, ← HN.out]
          go_roundw
          case rel => exact ⟨pre ++ [signAt r], r.drop k, _, f, by rw [hxs]; simp, by rw [hdl]; omega, B4, hr4, by rw [hdl]; exact ho4, HT3.out.fr F4 (by omega) (by omega), hJ _ _ _ HJ3.out F4⟩
          case measure =>
            rw [cellLen_of B4, cellLen_of B]
            omega
        · gi_wp2
          refine bodyPost_ret (results_none rfl _ _ _) rfl ?_
          exact ⟨⟨_, rfl⟩, .inr ⟨_, ⟨wideS f (r.drop k), by simp [hxs]⟩, hJx3⟩⟩
end Go.Proofs.YthamenngccaijaaGreatDoor

namespace Go.Proofs.YthamenngccaijaaGreatDoor
open Go Go.RowKit Go.Q
attribute [local go_sem] Oper.semAt_some
def SigOut (w w' : World) (l : List Int) (base : Nat) (e : Ending) : Prop :=
  ∃ gf cb : Nat, e = .returned (.func (.func gf) #[] #[pt cb]) ∧ base ≤ cb ∧ w.heap.size ≤ cb ∧ cb < w'.heap.size ∧ (∀ args w, (callFunc gf args).run Tryz.prog w = .ok (.enter gf args) w) ∧ Iter Tryz.prog gf #[pt cb] l cb base w'
set_option maxRecDepth 20000 in
theorem signs_any (k : Int) (v : Value) (b : List UInt8) (w : World) (base : Nat) (hv : Bytes w v b) (hoff : Off v b.length (fun k => base ≤ k)) (hb : base ≤ w.heap.size) (hT : Tabs w) (h2 : 5 < base) :
    Calls Tryz.prog 200 #[.agg #[.int .i64 k, v]] w fun e w' => SigOut w w' (signsS k b) base e ∧ Fr (fun _ => False) w w' := by
  have F : Fr (fun _ => False) w ((w.alloc (.cells #[.int .i64 k, v] 172)).alloc (.cells #[v] 23)) := ((Fr.refl w).alloc _).alloc _
  have B := Blk.new (w.alloc (.cells #[.int .i64 k, v] 172)) 23 #[v]
  rw [World.size_alloc] at B
  have hv1 := hv.old F
  have hT1 := hT.old F
  have hcb : base ≤ w.heap.size + 1 := by omega
  have hlt : w.heap.size + 1 < ((w.alloc (.cells #[.int .i64 k, v] 172)).alloc (.cells #[v] 23)).heap.size := by simp
  obtain ⟨a, cap, rfl, -⟩ := hv.form
  have H12 := wide1_iter _ b _ base _ B hv1 hoff hcb hT1 h2
  have H30 := pairs1_iter _ b _ base _ B hv1 hoff hcb
  have h0 := B.cell 0
  simp only [List.getElem?_toArray, List.getElem?_cons_zero] at h0
  have H0 := single1_iter _ b _ base _ h0 hv1 hoff
  have HH12 := Lib.hid H12
  have HH30 := Lib.hid H30
  have HH0 := Lib.hid H0
  have HF := Lib.hid F
  have HLT := Lib.hid hlt
  clear H12 H30 H0 F hlt h0 B hv1 hv hoff hT1 hT
  have hk : k = 12 ∨ k = 30 ∨ (k ≠ 12 ∧ k ≠ 30) := by omega
  rcases hk with rfl | rfl | ⟨h12, h30⟩
  · go_enter Tryz.func200, Tryz.ntmps200
    go_wp2_with (first | (go_at_call 245; go_in))
    go_ret
    exact ⟨⟨281, w.heap.size + 1, rfl, hcb, Nat.le_succ _, HLT.out, enters_of Tryz.func281 (by kernel_rfl) rfl, HH12.out⟩, HF.out⟩
  · go_enter Tryz.func200, Tryz.ntmps200
    go_wp2_with (first | (go_at_call 246; go_in))
    go_ret
    exact ⟨⟨283, w.heap.size + 1, rfl, hcb, Nat.le_succ _, HLT.out, enters_of Tryz.func283 (by kernel_rfl) rfl, HH30.out⟩, HF.out⟩
  · have q1 : (k == 12) = false := beq_eq_false_iff_ne.2 h12
    have q2 : (k == 30) = false := beq_eq_false_iff_ne.2 h30
    have hs : signsS k b = byteInts b := by unfold signsS; rw [if_neg h12, if_neg h30]; rfl
    have HS := Lib.hid hs
    clear hs
    go_enter Tryz.func200, Tryz.ntmps200
    go_wp2_with (first | (go_at_call 247; go_in))
    go_ret
    exact ⟨⟨284, w.heap.size + 1, rfl, hcb, Nat.le_succ _, HLT.out, enters_of Tryz.func284 (by kernel_rfl) rfl, by rw [HS.out]; exact HH0.out⟩, HF.out⟩
end Go.Proofs.YthamenngccaijaaGreatDoor

namespace Go.Proofs.YthamenngccaijaaGreatDoor
open Go Go.RowKit Go.Q
attribute [local go_sem] Oper.semAt_some
set_option maxRecDepth 100000 in
set_option maxHeartbeats 2000000 in
theorem rightText_any (k : Int) (v : Value) (b : List UInt8) (w : World) (hv : Bytes w v b) (hT : Tabs w) :
    Calls Tryz.prog 195 #[.agg #[.int .i64 k, v]] w fun e w' => e = .returned (.bool (rightS k b)) ∧ Fr (fun _ => False) w w' := by
  obtain ⟨z, hz⟩ : ∃ z, z = w.heap.size := ⟨_, rfl⟩
  have h2 : 5 < z := by rw [hz]; exact hT.size
  have hoff : Off v b.length (fun k => z ≤ k) := fun h0 j hj hk => by
    have := hv.lt (by rw [byteCells_len]; exact h0) j hj
    omega
  obtain ⟨a, cap, rfl, -⟩ := hv.form
  have F0 : Fr (fun _ => False) w ((w.alloc (.cells #[.int .i64 k, .slice a b.length cap] 172)).alloc (.cells #[.bool false] 4)) := ((Fr.refl w).alloc _).alloc _
  have BT := (Blk.new w 172 #[.int .i64 k, .slice a b.length cap]).alloc (.cells #[.bool false] 4)
  have BR := Blk.new (w.alloc (.cells #[.int .i64 k, .slice a b.length cap] 172)) 4 #[.bool false]
  rw [World.size_alloc, ← hz] at BR
  rw [← hz] at BT
  have hv0 := hv.old F0
  have hT0 := hT.old F0
  have hs0 := F0.size
  have HF0 := Lib.hid F0
  have HZ := Lib.hid hz
  refine (callsIn_wide (n := 3)).1 ?_
  refine callsIn_of_wp_marks Tryz.func195 rfl trivial ?_ rfl
  simp only [Tryz.ntmps195, List.size_toArray, List.length_cons, List.length_nil, Nat.reduceAdd, Nat.reduceSub, Array.replicate_succ, Array.replicate_zero, List.push_toArray, List.append_toArray, List.nil_append, List.cons_append]
  gi_upto_region 1 with fail
  rw [← HZ.out]
  obtain ⟨w1, hw1⟩ : ∃ w1, w1 = ((w.alloc (.cells #[.int .i64 k, .slice a b.length cap] 172)).alloc (.cells #[.bool false] 4)) := ⟨_, rfl⟩
  rw [← hw1] at HF0 BT BR hv0 hT0 hs0 ⊢
  rw [← hz] at hs0
  clear hw1 F0 hv hT hz
  have z0 := BT.cell 0
  simp at z0
  cases hk : Go.Q.kindOk k with
  | false =>
    have hr : rightS k b = false := by unfold rightS; rw [hk]; rfl
    have HR := Lib.hid hr
    have HK := Lib.hid (known_any k w1)
    rw [hk] at HK
    clear hr hk
    gi_wp2_with (refine ⟨trivial, ?_⟩; gi_at_call 201; refine (callsIn_wide.2 HK.out).mono ?_; rintro e w2 ⟨rfl, F2⟩; have BR2 := BR.fr F2 (fun h => h); have r0 := BR2.cell 0; have f0 := BR2.frozen 0; simp at r0)
    have F4 : Fr (fun k => k = z + 1) w2 (w2.setCell ⟨z + 1, 0, none⟩ (.bool false)) := Fr.setCell (S := fun k => k = z + 1) (p := ⟨z + 1, 0, none⟩) (Fr.refl w2) (fun _ => rfl) _
    have r1 := (BR2.set 0 (.bool false)).cell 0
    simp at r1
    exact ⟨.bool false, by simp [results, Tryz.results195, go_sem, r1], by rw [HR.out], (HF0.out.trans F2).trans' F4 (fun i hi e => absurd hi (by rw [← HZ.out]; omega))⟩
  | true =>
    have hr : rightS k b = (signsS k b).all (mayS k) := by unfold rightS; rw [hk, Bool.true_and]
    have HR := Lib.hid hr
    have HK := Lib.hid (known_any k w1)
    rw [hk] at HK
    obtain ⟨xs, hxs⟩ : ∃ xs, xs = signsS k b := ⟨_, rfl⟩
    rw [← hxs] at HR
    have HXS := Lib.hid hxs
    clear hr hk hxs
    gi_wp2_with (refine ⟨trivial, ?_⟩; gi_at_call 201; refine (callsIn_wide.2 HK.out).mono ?_; rintro e w2 ⟨rfl, F2⟩; have BT2 := BT.fr F2 (fun h => h); have BR2 := BR.fr F2 (fun h => h); have t0 := BT2.cell 0; have t1 := BT2.cell 1; simp at t0 t1; have HG := Lib.hid (signs_any k _ b w2 z (hv0.old F2) hoff (Nat.le_trans hs0 F2.size) (hT0.old F2) h2))
    refine ⟨trivial, (callsIn_wide.2 HG.out).mono ?_⟩
    rintro e w3 ⟨⟨gf, cb, rfl, hzc, hgc, hcl, heg, hit⟩, F3⟩
    rw [← HXS.out] at hit
    have lr2 := BR2.lt
    have BT3 := BT2.fr F3 (fun h => h)
    have BR3 := BR2.fr F3 (fun h => h)
    have HF3 := Lib.hid ((HF0.out.trans F2).trans F3)
    have lr3 := BR3.lt
    have HIT := Lib.hid hit
    clear HG HK hv0 hT0 BT BR BT2 BR2 F2 F3 t0 t1 z0 hit
    gi_wp2
    refine range_law (gf := gf) (lb := #[pt cb]) rfl heg hcl (Nat.le_of_lt (Nat.lt_of_lt_of_le (Nat.lt_succ_self z) (Nat.le_of_lt lr3))) HIT.out rfl
      (fun pre W => Blk W z 172 #[.int .i64 k, .slice a b.length cap] ∧ Blk W (z + 1) 4 #[.bool false] ∧ Fr (fun _ => False) w W ∧ ∀ n ∈ pre, mayS k n = true)
      (fun c pre W => c = .ret ∧ Blk W (z + 1) 4 #[.bool false] ∧ Fr (fun _ => False) w W ∧ ∃ n ∈ pre, mayS k n = false)
      (fun s A B h f => ⟨h.1.fr f (by omega), h.2.1.fr f (by omega), h.2.2.1.trans' f (fun i hi e => by have := HZ.out; omega), h.2.2.2⟩)
      (fun c s A B h f => ⟨h.1, h.2.1.fr f (by omega), h.2.2.1.trans' f (fun i hi e => by have := HZ.out; omega), h.2.2.2⟩)
      ⟨BT3, BR3, HF3.out, by simp⟩
      (fun x => { tmps := #[.agg #[.int .i64 k, .slice a b.length cap], .pointer (some ⟨z, 0, none⟩), .pointer (some ⟨z + 1, 0, none⟩), .int .i64 x, .pointer (some ⟨z, 0, none⟩), .int .i64 k, .bool true, .bool false, .agg #[.int .i64 k, .slice a b.length cap], .func (.func gf) #[] #[pt cb], .int .i64 x, undef, undef, undef, undef, undef], defers := [] }) ?assign ?body ?done ?stop
    case assign =>
      intro l x W K hK
      gi_wp2
      exact hK
    case body =>
      rintro l pre x rest W hx ⟨BT, BR, F, hall⟩ hE
      have t0 := BT.cell 0
      have r0 := BR.cell 0
      have f0 := BR.frozen 0
      simp at t0 r0
      obtain ⟨m, hm⟩ : ∃ m, m = mayS k x := ⟨_, rfl⟩
      have HM := Lib.hid hm
      have HY := Lib.hid (may_any k x W)
      rw [← hm] at HY
      clear hm HIT
      cases m with
      | false =>
        gi_wp2_with (refine ⟨trivial, ?_⟩; gi_at_call 202; refine (CallsIn.inRound l (callsIn_wide.2 HY.out)).mono ?_; rintro e W2 ⟨rfl, rfl⟩)
        have F4 : Fr (fun k => k = z + 1) W (W.setCell ⟨z + 1, 0, none⟩ (.bool false)) := Fr.setCell (S := fun k => k = z + 1) (p := ⟨z + 1, 0, none⟩) (Fr.refl W) (fun _ => rfl) _
        have B4 := BR.set 0 (.bool false)
        simp at B4
        exact ⟨F4.mono (fun k _ e => ⟨by omega, by omega, by omega, by omega⟩), rfl, B4, F.trans' F4 (fun i hi e => by have := HZ.out; omega), x, by simp, HM.out.symm⟩
      | true =>
        gi_wp2_with (refine ⟨trivial, ?_⟩; gi_at_call 202; refine (CallsIn.inRound l (callsIn_wide.2 HY.out)).mono ?_; rintro e W2 ⟨rfl, rfl⟩)
        refine ⟨Fr.refl W, BT, BR, F, fun n hn => ?_⟩
        rcases List.mem_append.1 hn with h | h
        · exact hall n h
        · rw [List.mem_singleton.1 h]; exact HM.out.symm
    case done =>
      rintro D W hD ⟨BT, BR, F, hall⟩ hK
      have hr : rightS k b = true := by rw [HR.out, List.all_eq_true]; exact hall
      have HRR := Lib.hid hr
      have r0 := BR.cell 0
      have f0 := BR.frozen 0
      simp at r0
      have F4 : Fr (fun k => k = z + 1) W (W.setCell ⟨z + 1, 0, none⟩ (.bool true)) := Fr.setCell (S := fun k => k = z + 1) (p := ⟨z + 1, 0, none⟩) (Fr.refl W) (fun _ => rfl) _
      have B4 := BR.set 0 (.bool true)
      simp at B4
      have hK4 := (F4.block D (Array.getElem?_eq_some_iff.1 hK).1 (by omega)).trans hK
      have F5 : Fr (fun k => k = D) (W.setCell ⟨z + 1, 0, none⟩ (.bool true)) ((W.setCell ⟨z + 1, 0, none⟩ (.bool true)).putObj D (.deferred none)) := Fr.putObj (S := fun k => k = D) (Fr.refl _) D (fun _ => rfl) _
      have r5 := (B4.fr F5 (by omega)).cell 0
      simp at r5
      clear hr HIT
      gi_wp2
      refine ⟨by simp, .inl ⟨_, _, rfl, run_takeDeferred hK4, ?_⟩⟩
      exact ⟨.bool true, by simp [results, Tryz.results195, go_sem, r5], by rw [HRR.out], (F.trans' F4 (fun i hi e => by have := HZ.out; omega)).trans' F5 (fun i hi e => by have := HZ.out; omega)⟩
    case stop =>
      rintro D c pre W hD hpre ⟨rfl, BR, F, n, hn, hm⟩ hK
      have hr : rightS k b = false := by rw [HR.out, List.all_eq_false]; exact ⟨n, hpre.subset hn, by rw [hm]; simp⟩
      have HRR := Lib.hid hr
      have r0 := BR.cell 0
      simp at r0
      have F5 : Fr (fun k => k = D) W (W.putObj D (.deferred none)) := Fr.putObj (S := fun k => k = D) (Fr.refl _) D (fun _ => rfl) _
      have r5 := (BR.fr F5 (by omega)).cell 0
      simp at r5
      clear hr HIT
      gi_wp2
      refine ⟨by simp, .inl ⟨_, _, rfl, run_takeDeferred hK, ?_⟩⟩
      exact ⟨.bool false, by simp [results, Tryz.results195, go_sem, r5], by rw [HRR.out], F.trans' F5 (fun i hi e => by have := HZ.out; omega)⟩
end Go.Proofs.YthamenngccaijaaGreatDoor

namespace Go.Q
open Go Go.RowKit
theorem wpListIn_append_run {P : Program} {F : Fence} {n : Nat} {w : World} {ops : Array Oper} {rest : List Oper} {o : Oper} {a : Act} {Q : Exit → Act → World → Prop} (hgd : o.guard = none) (s x : Operand) (t : TypeId)
    (ho : o.op = .call { callee := .builtin .append, args := #[s, x], argTypes := #[t, t] }) (v' : Value) (w' : World)
    (hr : (Builtin.append_ #[t, t] o.type #[a.eval s, a.eval x]).run P w = .ok v' w') (h : wpListIn F n P ops Q rest (a.put o.dst v') w') : wpListIn F n P ops Q (o :: rest) a w := by
  refine wpListIn_plain hgd fun K hK => ?_
  unfold Oper.wpIn
  refine ⟨by simp [Oper.about, ho, resolve, Target.leads, Sem.run_pure], ?_⟩
  rw [Oper.semAt_plain F _ _ (by rw [ho]; intro c hc; cases hc)]
  simp [execOp, ho, resolve, invoke, builtin, hr, Result.andThen]
  exact hK _ _ h
theorem wideS_len : ∀ (f : Nat) (l : List UInt8), (wideS f l).length ≤ f
  | 0, [] => by simp [wideS]
  | 0, _ :: _ => by simp [wideS]
  | f + 1, [] => by simp [wideS]
  | f + 1, x :: t => by
    have := wideS_len f ((x :: t).drop (decS (x :: t)).2)
    simp only [wideS, List.length_cons]
    omega
theorem pairsS_len : ∀ l : List UInt8, (pairsS l).length ≤ l.length
  | [] => by simp [pairsS]
  | [_] => by simp [pairsS]
  | _ :: _ :: t => by
    have := pairsS_len t
    simp only [pairsS, List.length_cons]
    omega
theorem signsS_len (k : Int) (b : List UInt8) : (signsS k b).length ≤ b.length := by
  unfold signsS
  split
  · exact wideS_len _ _
  split
  · exact pairsS_len _
  · simp
end Go.Q
namespace Go.Proofs.YthamenngccaijaaGreatDoor
open Go Go.RowKit Go.Q
attribute [local go_sem] Oper.semAt_some
set_option maxRecDepth 100000 in
set_option maxHeartbeats 2000000 in
theorem signsText_any (k : Int) (v : Value) (b : List UInt8) (w : World) (hv : Bytes w v b) (hT : Tabs w) (hbl : b.length ≤ 1099511627) (hok : rightS k b = true) :
    Calls Tryz.prog 158 #[.agg #[.int .i64 k, v]] w fun e w' => (∃ u, e = .returned (.tuple #[u, .int .i64 0]) ∧ w'.ownsRow w.heap.size 3 1 u (signsS k b).length (intCells (signsS k b))) ∧ Fr (fun _ => False) w w' := by
  obtain ⟨xs, hxs⟩ : ∃ xs, xs = signsS k b := ⟨_, rfl⟩
  have hxl : xs.length ≤ b.length := by rw [hxs]; exact signsS_len k b
  rw [← hxs]
  have HXS := Lib.hid hxs
  clear hxs
  obtain ⟨z, hz⟩ : ∃ z, z = w.heap.size := ⟨_, rfl⟩
  have h2 : 5 < z := by rw [hz]; exact hT.size
  have hoff : Off v b.length (fun k => z ≤ k) := fun h0 j hj hk => by
    have := hv.lt (by rw [byteCells_len]; exact h0) j hj
    omega
  obtain ⟨a, cap, rfl, -⟩ := hv.form
  have F0 : Fr (fun _ => False) w (w.alloc (.cells #[.int .i64 k, .slice a b.length cap] 172)) := (Fr.refl w).alloc _
  have BT := Blk.new w 172 #[.int .i64 k, .slice a b.length cap]
  rw [← hz] at BT
  have hv0 := hv.old F0
  have hT0 := hT.old F0
  have hs0 := F0.size
  have HF0 := Lib.hid F0
  have HZ := Lib.hid hz
  refine (callsIn_wide (n := 3)).1 ?_
  refine callsIn_of_wp_marks Tryz.func158 rfl trivial ?_ rfl
  simp only [Tryz.ntmps158, List.size_toArray, List.length_cons, List.length_nil, Nat.reduceAdd, Nat.reduceSub, Array.replicate_succ, Array.replicate_zero, List.push_toArray, List.append_toArray, List.nil_append, List.cons_append]
  gi_upto_region 1 with fail
  rw [← HZ.out]
  obtain ⟨w1, hw1⟩ : ∃ w1, w1 = w.alloc (.cells #[.int .i64 k, .slice a b.length cap] 172) := ⟨_, rfl⟩
  rw [← hw1] at HF0 BT hv0 hT0 hs0 ⊢
  rw [← hz] at hs0
  clear hw1 F0 hv hT hz
  have t0 := BT.cell 0
  have t1 := BT.cell 1
  simp at t0 t1
  have HK := Lib.hid (rightText_any k _ b w1 hv0 hT0)
  rw [hok] at HK
  clear hok
  gi_upto_region 4 with (refine ⟨trivial, ?_⟩; gi_at_call 195; refine (callsIn_wide.2 HK.out).mono ?_; rintro e w2 ⟨rfl, F2⟩; have BT2 := BT.fr F2 (fun h => h); have t0 := BT2.cell 0; have t1 := BT2.cell 1; simp at t0 t1)
  obtain ⟨g, hg⟩ : ∃ g, g = w2.heap.size := ⟨_, rfl⟩
  have F3 : Fr (fun _ => False) w2 (w2.alloc (.cells #[.slice none 0 0] 105)) := (Fr.refl w2).alloc _
  have BT3 := BT2.fr F3 (fun h => h)
  have BG3 := Blk.new w2 105 #[.slice none 0 0]
  have hs1 := F2.size
  have HSG := Lib.hid (signs_any k _ b _ z ((hv0.old F2).old F3) hoff (Nat.le_trans hs0 (F2.trans F3).size) ((hT0.old F2).old F3) h2)
  have HF3 := Lib.hid ((HF0.out.trans F2).trans F3)
  rw [← hg] at BG3 ⊢
  have hgz : z < g := by have := BT2.lt; omega
  have hgw := BG3.lt
  clear HK hv0 hT0 BT BT2 F2 F3 t0 t1 hg hs1
  generalize (w2.alloc (.cells #[.slice none 0 0] 105)) = w3 at *
  have t0 := BT3.cell 0
  have t1 := BT3.cell 1
  simp at t0 t1
  gi_wp2_with fail
  refine ⟨trivial, (callsIn_wide.2 HSG.out).mono ?_⟩
  rintro e w4 ⟨⟨gf, cb, rfl, hzc, hgc, hcl, heg, hit⟩, F4⟩
  rw [← HXS.out] at hit
  have BT4 := BT3.fr F4 (fun h => h)
  have BG4 := BG3.fr F4 (fun h => h)
  have HF4 := Lib.hid (HF3.out.trans F4)
  have lg4 := BG4.lt
  have HIT := Lib.hid hit
  clear HSG BT3 BG3 F4 t0 t1 hit HF3
  gi_wp2
  obtain ⟨E, hE0⟩ : ∃ E, E = w4.heap.size := ⟨_, rfl⟩
  have HE := Lib.hid hE0
  refine range_law (gf := gf) (lb := #[pt cb]) rfl heg hcl (base := z) (Nat.le_of_lt (Nat.lt_trans hgz lg4)) HIT.out rfl
    (fun pre W => ∃ u, Blk W g 105 #[u] ∧ W.ownsRow (E + 2) 3 1 u pre.length (intCells pre) ∧ Fr (fun _ => False) w W)
    (fun _ _ _ => False)
    (fun s A B h f => by
      obtain ⟨u, h1, h3, h4⟩ := h
      exact ⟨u, h1.fr f (by omega), ownsRow_fr h3 f (fun j hj e => by have := ((Vals.of_own h3).2 j hj).1; omega), h4.trans' f (fun i hi e => by have := HZ.out; omega)⟩)
    (fun c s A B h f => h)
    ⟨_, BG4, ⟨rfl, .inl ⟨rfl, rfl⟩⟩, HF4.out⟩
    (fun x => { tmps := #[.agg #[.int .i64 k, .slice a b.length cap], .pointer (some ⟨z, 0, none⟩), .slice none 0 0, .int .i64 0, .pointer (some ⟨g, 0, none⟩), .int .i64 x, .agg #[.int .i64 k, .slice a b.length cap], .bool true, .bool false, .agg #[.int .i64 k, .slice a b.length cap], .func (.func gf) #[] #[pt cb], .int .i64 x, undef, undef, undef, undef, undef], defers := [] }) ?assign ?body ?done ?stop
  case assign =>
    intro l x W K hK
    gi_wp2
    exact hK
  case body =>
    rintro l pre x rest W hx ⟨u, BG, hown, F⟩ hE
    have hpl : pre.length + (rest.length + 1) = xs.length := by rw [hx]; simp
    have hgW := BG.lt
    have BX := Blk.new W 3 #[.int .i64 x]
    have F1 : Fr (fun _ => False) W (W.alloc (.cells #[.int .i64 x] 3)) := (Fr.refl W).alloc _
    have hsrc : Ints (W.alloc (.cells #[.int .i64 x] 3)) (.slice (some ⟨W.heap.size, 0, none⟩) 1 1) [x] := Vals.of_block BX (by unfold maxLen; simp)
    obtain ⟨u', W2, hrun, hown2, F2, hb2⟩ := append_ints (ownsRow_fr hown F1 (fun _ _ h => h)) (some ⟨W.heap.size, 0, none⟩) 1 1 [x] hsrc (by omega) (by rw [HE.out]; have := F1.size; omega)
    obtain ⟨a', m', c', rfl, rfl⟩ := own_shape hown2
    have hug : ∀ j, u.ownBlock = some j → E + 2 ≤ j ∧ j < W.heap.size := (Vals.of_own hown).2
    have BG2 := (BG.fr F1 (fun h => h)).fr F2 (fun e => by have := (hug _ e).1; have := HE.out; omega)
    have hug2 : ∀ j, (Value.slice a' (pre.length + 1) c').ownBlock = some j → E + 2 ≤ j := fun j hj => ((Vals.of_own hown2).2 j hj).1
    have G2 : Fr (fun k => E + 2 ≤ k) W W2 := (F1.mono (fun _ _ h => h.elim)).trans (F2.mono (fun j _ e => (hug j e).1))
    have t0 := BG.cell 0
    have t2 := BG2.cell 0
    have f2 := BG2.frozen 0
    have hal := alloc_old
    simp at t0 t2
    have HRUN := Lib.hid hrun
    have HOWN2 := Lib.hid hown2
    have HUG2 := Lib.hid hug2
    clear hrun hown2 hug2 hug HIT hE0 BX hsrc F1 F2
    gi_wp2_with (gi_at_builtin; refine wpListIn_append_run (by rfl) (.tmp 12) (.tmp 14) 105 (by rfl) _ W2 (by exact HRUN.out) ?_)
    have F5 : Fr (fun k => k = g) W2 (W2.setCell ⟨g, 0, none⟩ (.slice a' (pre.length + 1) c')) := Fr.setCell (S := fun k => k = g) (p := ⟨g, 0, none⟩) (Fr.refl W2) (fun _ => rfl) _
    have B5 := BG2.set 0 (.slice a' (pre.length + 1) c')
    simp at B5
    have hEe := HE.out
    have hZe := HZ.out
    refine ⟨(G2.mono (fun j _ e => ⟨by omega, by omega, by omega, by omega⟩)).trans (F5.mono (fun j _ e => ⟨by omega, by omega, by omega, by omega⟩)), _, B5, ?_, (F.trans' G2 (fun i hi e => by omega)).trans' F5 (fun i hi e => by omega)⟩
    rw [List.length_append]
    exact ownsRow_fr HOWN2.out F5 (fun j hj e => by have := HUG2.out j hj; omega)
  case done =>
    rintro D W hD ⟨u, BG, hown, F⟩ hK
    have hEe := HE.out
    have F5 : Fr (fun k => k = D) W (W.putObj D (.deferred none)) := Fr.putObj (S := fun k => k = D) (Fr.refl _) D (fun _ => rfl) _
    have t0 := BG.cell 0
    simp at t0
    have hown5 := own_le (ownsRow_fr hown F5 (fun j hj e => by have := ((Vals.of_own hown).2 j hj).1; omega)) (base' := w.heap.size) (by have := HZ.out; omega)
    have HO5 := Lib.hid hown5
    have HF5 := Lib.hid (F.trans' F5 (fun i hi e => by have := HZ.out; omega))
    have HE2 := Lib.hid hEe
    clear hown hown5 HIT hE0 hEe F F5
    gi_wp2
    refine ⟨by simp, .inl ⟨_, _, rfl, run_takeDeferred hK, ?_⟩⟩
    exact ⟨.tuple #[u, .int .i64 0], by simp [results, Tryz.results158, go_sem], ⟨u, rfl, HO5.out⟩, HF5.out⟩
  case stop =>
    rintro D c pre W hD hpre h hK
    exact h.elim
end Go.Proofs.YthamenngccaijaaGreatDoor

namespace Go.Q
open Go Go.RowKit
theorem enc_cells {n : Nat} (h : okSign n) : Lib.runeCells (n : Int) = Lib.byteCells (enc n) := by
  obtain ⟨h1, h2⟩ := h
  unfold Lib.runeCells enc Lib.byteCells
  split
  · rw [Lib.encodeRuneZ_one (by omega) (by omega)]
    simp only [List.map_cons, List.map_nil, u8 n (by omega)]
  split
  · rw [Lib.encodeRuneZ_two (by omega) (by omega)]
    simp only [List.map_cons, List.map_nil, u8 (192 + n / 64) (by omega), u8 (128 + n % 64) (by omega)]
    rfl
  split
  · rw [Lib.encodeRuneZ_three (by omega)]
    simp only [List.map_cons, List.map_nil, u8 (224 + n / 4096) (by omega), u8 (128 + n / 64 % 64) (by omega), u8 (128 + n % 64) (by omega)]
    rfl
  · rw [Lib.encodeRuneZ_four (by omega) (by omega)]
    simp only [List.map_cons, List.map_nil, u8 (240 + n / 262144) (by omega), u8 (128 + n / 4096 % 64) (by omega), u8 (128 + n / 64 % 64) (by omega), u8 (128 + n % 64) (by omega)]
    rfl
end Go.Q
namespace Go.Proofs.YthamenngccaijaaGreatDoor
open Go Go.RowKit Go.Q
def PutOut (w w' : World) (base : Nat) (v : Value) (n : Nat) (xs l : List UInt8) (e : Ending) : Prop :=
  ∃ a c, e = .returned (.slice a (n + l.length) c) ∧ w'.ownsRow base 5 1 (.slice a (n + l.length) c) (n + l.length) (Lib.byteCells (xs ++ l)) ∧ Fr (fun k => v.ownBlock = some k) w w'
set_option maxRecDepth 20000 in
set_option maxHeartbeats 1000000 in
theorem putText_any {w : World} {base n : Nat} {v : Value} {xs : List UInt8} (k : Int) (m : Nat) (hown : w.ownsRow base 5 1 v n (Lib.byteCells xs)) (hm : mayS k m = true) (hk : Go.Q.kindOk k = true) (hn : n ≤ 1099511627776) (hb : base ≤ w.heap.size) :
    Calls Tryz.prog 203 #[v, .int .i64 k, .int .i64 m] w fun e w' => PutOut w w' base v n xs (putS1 k m) e := by
  have hk' : k = 12 ∨ k = 19 ∨ k = 20 ∨ k = 22 ∨ k = 26 ∨ k = 30 := by simpa [Go.Q.kindOk] using hk
  by_cases h12 : k = 12
  · subst h12
    have hs : okSign m := by
      simp [mayS, surr] at hm
      unfold okSign
      omega
    have hp : putS1 12 m = enc m := rfl
    rw [hp]
    have hw : IntKind.i32.wrap (m : Int) = (m : Int) := by unfold okSign at hs; simp [IntKind.wrap, IntKind.signed, IntKind.bits]; omega
    have H := Lib.hid (Go.Proofs.Tryz.utf8_AppendRune_plain base v n (Lib.byteCells xs) (m : Int) (by omega) (by unfold okSign at hs; omega) w hown (by omega) hb)
    have hl := byteCells_len (enc m)
    rw [enc_cells hs, ← byteCells_append, hl] at H
    clear hown hs hm hk hk' hp hl
    go_enter Tryz.func203, Tryz.ntmps203
    go_wp2_with fail
    refine H.out.mono ?_
    rintro e w' ⟨v', rfl, h1, o, h2⟩
    obtain ⟨a, m', c, rfl, rfl⟩ := own_shape h1
    go_wp2_with fail
    go_ret
    refine ⟨a, c, rfl, h1, ?_⟩
    have f := Fr.of_grown h2
    exact ((Fr.refl (S := fun k => v.ownBlock = some k) w).alloc o).trans f
  · have q1 : (k == 12) = false := beq_eq_false_iff_ne.2 h12
    by_cases h30 : k = 30
    · subst h30
      have hb2 : m < 65536 := by simp [mayS, surr] at hm; omega
      obtain ⟨y1, hy1⟩ : ∃ y, y = m / 256 := ⟨_, rfl⟩
      obtain ⟨y2, hy2⟩ : ∃ y, y = m % 256 := ⟨_, rfl⟩
      have hw1 : IntKind.u8.wrap ((m : Int) / 256) = (y1 : Int) := by rw [hy1]; simp [IntKind.wrap, IntKind.signed, IntKind.bits]; omega
      have hw2 : IntKind.u8.wrap (m : Int) = (y2 : Int) := by rw [hy2]; simp [IntKind.wrap, IntKind.signed, IntKind.bits]
      have hp : putS1 30 m = [UInt8.ofNat y1, UInt8.ofNat y2] := by rw [hy1, hy2]; rfl
      rw [hp]
      have BX := Blk.new w 5 #[.int .u8 y1, .int .u8 y2]
      have F1 : Fr (fun _ => False) w (w.alloc (.cells #[.int .u8 y1, .int .u8 y2] 5)) := (Fr.refl w).alloc _
      have hsrc : Bytes (w.alloc (.cells #[.int .u8 y1, .int .u8 y2] 5)) (.slice (some ⟨w.heap.size, 0, none⟩) 2 2) [UInt8.ofNat y1, UInt8.ofNat y2] := by
        have h := Vals.of_block BX (by unfold maxLen; simp)
        have e : Lib.byteCells [UInt8.ofNat y1, UInt8.ofNat y2] = [.int .u8 y1, .int .u8 y2] := by simp only [Lib.byteCells, List.map_cons, List.map_nil, u8 y1 (by omega), u8 y2 (by omega)]
        show Vals _ _ (Lib.byteCells [UInt8.ofNat y1, UInt8.ofNat y2])
        rw [e]
        exact h
      obtain ⟨v', w2, hrun, h1, F2, _⟩ := append_bytes (ownsRow_fr hown F1 (fun _ _ h => h)) (some ⟨w.heap.size, 0, none⟩) 2 2 [UInt8.ofNat y1, UInt8.ofNat y2] hsrc (by omega) (Nat.le_trans hb F1.size)
      obtain ⟨a, m', c, rfl, rfl⟩ := own_shape h1
      have HRUN := Lib.hid hrun
      have HOWN := Lib.hid h1
      have HF := Lib.hid ((F1.mono (T := fun k => v.ownBlock = some k) (fun _ _ h => h.elim)).trans F2)
      clear hrun h1 F1 F2 BX hsrc hp hm hk hk' hown hy1 hy2
      go_enter Tryz.func203, Tryz.ntmps203
      go_wp2_with (at_builtin; refine wpList_append_run (by rfl) (.tmp 16) (.tmp 22) 23 (by rfl) _ w2 (by exact HRUN.out) ?_)
      go_ret
      exact ⟨a, c, rfl, HOWN.out, HF.out⟩
    · have q2 : (k == 30) = false := beq_eq_false_iff_ne.2 h30
      have hb : m < 256 := by
        rcases hk' with r | r | r | r | r | r <;> subst r <;> simp [mayS] at hm <;> omega
      have hw : IntKind.u8.wrap (m : Int) = (m : Int) := by simp [IntKind.wrap, IntKind.signed, IntKind.bits]; omega
      have hp : putS1 k m = [UInt8.ofNat m] := by unfold putS1; rw [if_neg h12, if_neg h30]; rfl
      rw [hp]
      have BX := Blk.new w 5 #[.int .u8 m]
      have F1 : Fr (fun _ => False) w (w.alloc (.cells #[.int .u8 m] 5)) := (Fr.refl w).alloc _
      have hsrc : Bytes (w.alloc (.cells #[.int .u8 m] 5)) (.slice (some ⟨w.heap.size, 0, none⟩) 1 1) [UInt8.ofNat m] := by
        have h := Vals.of_block BX (by unfold maxLen; simp)
        have e : Lib.byteCells [UInt8.ofNat m] = [.int .u8 m] := by simp only [Lib.byteCells, List.map_cons, List.map_nil, u8 m hb]
        show Vals _ _ (Lib.byteCells [UInt8.ofNat m])
        rw [e]
        exact h
      obtain ⟨v', w2, hrun, h1, F2, _⟩ := append_bytes (ownsRow_fr hown F1 (fun _ _ h => h)) (some ⟨w.heap.size, 0, none⟩) 1 1 [UInt8.ofNat m] hsrc (by omega) (Nat.le_trans ‹base ≤ w.heap.size› F1.size)
      obtain ⟨a, m', c, rfl, rfl⟩ := own_shape h1
      have HRUN := Lib.hid hrun
      have HOWN := Lib.hid h1
      have HF := Lib.hid ((F1.mono (T := fun k => v.ownBlock = some k) (fun _ _ h => h.elim)).trans F2)
      clear hrun h1 F1 F2 BX hsrc hp hm hk hk' hown
      go_enter Tryz.func203, Tryz.ntmps203
      go_wp2_with (at_builtin; refine wpList_append_run (by rfl) (.tmp 24) (.tmp 27) 23 (by rfl) _ w2 (by exact HRUN.out) ?_)
      go_ret
      exact ⟨a, c, rfl, HOWN.out, HF.out⟩
end Go.Proofs.YthamenngccaijaaGreatDoor

namespace Go.Q
open Go Go.RowKit
theorem enc_le (n : Nat) : (enc n).length ≤ 4 := by unfold enc; (repeat' split) <;> simp
theorem putS1_le (k n : Int) : (putS1 k n).length ≤ 4 := by
  unfold putS1
  split
  · exact enc_le _
  · split <;> simp
theorem ofS_take {k : Int} {l : List Int} {j : Nat} {n : Int} (h : l[j]? = some n) : ofS k (l.take (j + 1)) = ofS k (l.take j) ++ putS1 k n := by
  rw [List.take_add_one, h]
  simp [ofS]
theorem ofS_le (k : Int) (l : List Int) : (ofS k l).length ≤ 4 * l.length := by
  induction l with
  | nil => simp [ofS]
  | cons n l ih =>
    have := putS1_le k n
    simp only [ofS, List.flatMap_cons, List.length_append, List.length_cons] at ih ⊢
    omega
end Go.Q
namespace Go.Proofs.YthamenngccaijaaGreatDoor
open Go Go.RowKit Go.Q
set_option maxRecDepth 20000 in
set_option maxHeartbeats 2000000 in
theorem ofText_any (k : Int) (v : Value) (l : List Int) (w : World) (h : Ints w v l) (hk : Go.Q.kindOk k = true) (hm : ∀ n ∈ l, mayS k n = true) (hl : l.length ≤ 100000000) :
    Calls Tryz.prog 159 #[.int .i64 k, v] w fun e w' => (∃ u, e = .returned (.tuple #[.agg #[.int .i64 k, u], .int .i64 0]) ∧ w'.ownsRow w.heap.size 5 1 u (ofS k l).length (Lib.byteCells (ofS k l))) ∧ Fr (fun _ => False) w w' := by
  have H := Lib.hid h
  have HM := Lib.hid hm
  obtain ⟨a, cap, rfl, -⟩ := Ints.form h
  obtain ⟨z, hz⟩ : ∃ z, z = w.heap.size := ⟨_, rfl⟩
  have F0 : Fr (fun _ => False) w (w.alloc (.cells #[.int .i64 0, .slice none 0 0] 172)) := (Fr.refl w).alloc _
  have B0 := Blk.new w 172 #[.int .i64 0, .slice none 0 0]
  rw [← hz] at B0
  have HZ := Lib.hid hz
  have HF0 := Lib.hid F0
  have HKN := Lib.hid (known_any k (w.alloc (.cells #[.int .i64 0, .slice none 0 0] 172)))
  rw [hk] at HKN
  have HK := Lib.hid hk
  clear h F0 hz hk hm
  go_enter Tryz.func159, Tryz.ntmps159
  go_upto_region 1 with fail
  rw [← HZ.out]
  generalize (w.alloc (.cells #[.int .i64 0, .slice none 0 0] 172)) = w1 at *
  go_upto_region 4 with (first | (go_at_call 201; refine HKN.out.mono ?_; rintro e w2 ⟨rfl, F2⟩))
  obtain ⟨y, hy⟩ : ∃ y, y = w2.heap.size := ⟨_, rfl⟩
  have F3 : Fr (fun _ => False) w2 (w2.alloc (.cells #[.int .i64 k, .slice none 0 0] 172)) := (Fr.refl w2).alloc _
  have BZ := (B0.fr F2 (fun h => h)).fr F3 (fun h => h)
  have BY := Blk.new w2 172 #[.int .i64 k, .slice none 0 0]
  have hzy : z < y := by have := (B0.fr F2 (fun h => h)).lt; omega
  have hs3 : y + 1 = (w2.alloc (.cells #[.int .i64 k, .slice none 0 0] 172)).heap.size := by rw [hy, World.size_alloc]
  have HF3 := Lib.hid ((HF0.out.trans F2).trans F3)
  rw [← hy] at BY ⊢
  clear HKN B0 HF0 F2 F3 hy
  generalize (w2.alloc (.cells #[.int .i64 k, .slice none 0 0] 172)) = w3 at *
  go_wp2_with fail
  go_loopg [17] l.length (fun g i wr => ∃ (j : Nat) (u : Value), g = l.length - j ∧ j ≤ l.length ∧ i = .int .i64 j ∧ Blk wr z 172 #[.int .i64 0, .slice none 0 0] ∧ Blk wr y 172 #[.int .i64 k, u] ∧ wr.ownsRow (y + 1) 5 1 u (ofS k (l.take j)).length (Lib.byteCells (ofS k (l.take j))) ∧ Fr (fun _ => False) w wr ∧ y + 1 ≤ wr.heap.size)
  case atStart => exact ⟨0, _, rfl, Nat.zero_le _, rfl, BZ, BY, ⟨rfl, .inl ⟨rfl, rfl⟩⟩, HF3.out, by omega⟩
  case round =>
    obtain ⟨j, u, hg, hj, rfl, BZ, BY, hown, F, hsz⟩ := hrel
    have HG := Lib.hid hg
    clear hg
    by_cases hjl : j < l.length
    · obtain ⟨a0, cap0, he, _, _, hx⟩ := Ints.form (H.out.old F)
      simp only [Value.slice.injEq, true_and] at he
      obtain ⟨rfl, rfl⟩ := he
      obtain ⟨b, off, rfl, hy⟩ := hx (by omega)
      obtain ⟨n, hn⟩ : ∃ n, l[j]? = some n := ⟨_, List.getElem?_eq_getElem hjl⟩
      have e1 := hy j n hn
      have hmn := HM.out n (List.mem_of_getElem? hn)
      have hn0 : 0 ≤ n := by
        have hk' : k = 12 ∨ k = 19 ∨ k = 20 ∨ k = 22 ∨ k = 26 ∨ k = 30 := by simpa [Go.Q.kindOk] using HK.out
        rcases hk' with r | r | r | r | r | r <;> subst r <;> simp [mayS] at hmn <;> omega
      obtain ⟨m, rfl⟩ : ∃ m : Nat, n = m := ⟨n.toNat, by omega⟩
      have hle := ofS_le k (l.take j)
      rw [List.length_take] at hle
      have hft := ofS_take (k := k) hn
      have HFT := Lib.hid hft
      have y0 := BY.cell 0
      have y1 := BY.cell 1
      have g1 := BY.frozen 1
      simp at y0 y1
      have HP := Lib.hid (putText_any k m hown hmn HK.out (by omega) (by omega))
      have HMY := Lib.hid (may_any k m wr)
      rw [hmn] at HMY
      have r1 : (0 : Int) ≤ (j : Int) := by omega
      have r2 : (j : Int) < (l.length : Int) := by omega
      have huy : ∀ q, u.ownBlock = some q → y + 1 ≤ q := fun q hq => ((Vals.of_own hown).2 q hq).1
      have HUY := Lib.hid huy
      clear hx hy hn hmn hft hown huy
      go_wp2_with (first | (go_at_call 202; refine HMY.out.mono ?_; rintro e w5 ⟨rfl, rfl⟩))
      refine HP.out.mono ?_
      rintro e w5 ⟨a5, c5, rfl, h5, F5⟩
      have BY5 := BY.fr F5 (fun e => by have := HUY.out _ e; omega)
      have BZ5 := BZ.fr F5 (fun e => by have := HUY.out _ e; omega)
      have g5 := BY5.frozen 1
      have y5 := BY5.cell 1
      simp at y5
      generalize (ofS k (l.take j)).length + (putS1 k m).length = N5 at *
      have F6 : Fr (fun q => q = y) w5 (w5.setCell ⟨y, 1, none⟩ (.slice a5 N5 c5)) := Fr.setCell (S := fun q => q = y) (p := ⟨y, 1, none⟩) (Fr.refl w5) (fun _ => rfl) _
      have BY6 := BY5.set 1 (.slice a5 N5 c5)
      simp at BY6
      have BZ6 := BZ5.fr F6 (by omega)
      have h6 := ownsRow_fr h5 F6 (fun q hq e => by have := ((Vals.of_own h5).2 q hq).1; omega)
      have G6 := (F.trans' F5 (fun i hi e => by have := HUY.out _ e; have := HZ.out; omega)).trans' F6 (fun i hi e => by have := HZ.out; omega)
      have hs6 := F6.size
      have hs5 := F5.size
      have hlen : N5 = (ofS k (l.take (j + 1))).length := by
        have := h6.1
        rw [byteCells_len, Nat.mul_one] at this
        rw [HFT.out, ← this]
      have HLEN := Lib.hid hlen
      have HG6 := Lib.hid G6
      have HH6 := Lib.hid h6
      clear hlen G6 h6 h5 F5 F6 F HP HMY
      go_wp2_with fail
      go_roundg (l.length - (j + 1))
      case measure => rw [HG.out]; omega
      case rel => exact ⟨j + 1, _, rfl, by omega, by go_num, BZ6, BY6, by rw [HFT.out, ← HFT.out, ← HLEN.out]; rw [HFT.out]; exact HH6.out, HG6.out, by omega⟩
    · have hall : l.take j = l := List.take_of_length_le (by omega)
      rw [hall] at hown
      have y0 := BY.cell 0
      have y1 := BY.cell 1
      have z0 := BZ.frozen 0
      have z1 := BZ.frozen 1
      have zc0 := BZ.cell 0
      have zc1 := BZ.cell 1
      simp at y0 y1 zc0 zc1
      obtain ⟨BZ6, F6⟩ := set2 BZ (.int .i64 k) u
      have HO6 := Lib.hid (own_le (ownsRow_fr hown F6 (fun q hq e => by have := ((Vals.of_own hown).2 q hq).1; omega)) (base' := w.heap.size) (by have := HZ.out; omega))
      have HF6 := Lib.hid (F.trans' F6 (fun i hi e => by have := HZ.out; omega))
      obtain ⟨au, mu, cu, rfl, -⟩ := own_shape hown
      clear hown F F6 hall
      go_wp2_with fail
      have n0 := BZ6.cell 0
      have n1 := BZ6.cell 1
      simp at n0 n1
      exact bodyPost_ret (v := .tuple #[.agg #[.int .i64 k, .slice au mu cu], .int .i64 0]) (by simp [results, Tryz.results159, go_sem, n0, n1]) rfl ⟨⟨_, rfl, HO6.out⟩, HF6.out⟩
end Go.Proofs.YthamenngccaijaaGreatDoor

namespace Go.Proofs.YthamenngccaijaaGreatDoor
open Go Go.RowKit Go.Q
theorem Parts.one {w : World} {u1 : Value} {l1 : List UInt8} (h1 : Bytes w u1 l1) : Parts (w.alloc (.cells #[u1] 23)) (.slice (some ⟨w.heap.size, 0, none⟩) 1 1) [l1] := by
  have F : Fr (fun _ => False) w (w.alloc (.cells #[u1] 23)) := (Fr.refl w).alloc _
  refine ⟨[u1], Vals.of_block (Blk.new w 23 #[u1]) (by unfold maxLen; simp), rfl, fun i u l hu hl => ?_⟩
  match i, hu, hl with
  | 0, hu, hl =>
    simp only [List.getElem?_cons_zero, Option.some.injEq] at hu hl
    subst hu; subst hl
    exact h1.old F
  | i + 1, hu, hl => simp at hu
end Go.Proofs.YthamenngccaijaaGreatDoor

namespace Go.Q
open Go Go.RowKit
def textReadS (l : List UInt8) : Except Int (Int × List UInt8 × Nat) :=
  match readS l with
  | .error e => .error e
  | .ok (t, n, k) => if t.cls ≠ 0 ∨ t.made = true ∨ kindOk t.num = false then .error 4 else if l.length - k < n then .error 3 else
    if rightS t.num ((l.drop k).take n) = true then .ok (t.num, (l.drop k).take n, k + n) else .error 6
end Go.Q
namespace Go.Proofs.YthamenngccaijaaGreatDoor
open Go Go.RowKit Go.Q
def TextOut (w w' : World) (c : Nat) (K : Nat → Prop) (bs : List UInt8) (p : Nat) (e : Ending) : Prop :=
  match textReadS (bs.drop p) with
  | .error x => e = .returned (.tuple #[.agg #[.int .i64 0, .slice none 0 0], .int .i64 x]) ∧ x ≠ 0 ∧ CurAt w' c K bs p
  | .ok (k, b, n) => (∃ u, e = .returned (.tuple #[.agg #[.int .i64 k, u], .int .i64 0]) ∧ w'.ownsRow w.heap.size 5 1 u b.length (Lib.byteCells b)) ∧ CurAt w' c K bs (p + n)
set_option maxRecDepth 20000 in
theorem textFail_any {w : World} {c b2 b6 : Nat} {K : Nat → Prop} {bs : List UInt8} {p q : Nat} (x : Int) (h : CurAt w c K bs q) (hpq : p ≤ q) (B2 : Blk w b2 50 #[pt c]) (B6 : Blk w b6 3 #[.int .i64 p]) :
    Calls Tryz.prog 198 #[.int .i64 x, pt b2, pt b6] w fun e w' => e = .returned (.tuple #[.agg #[.int .i64 0, .slice none 0 0], .int .i64 x]) ∧ CurAt w' c K bs p ∧ Fr (fun k => k = c) w w' := by
  have hlc := h.lt
  obtain ⟨z, hz⟩ : ∃ z, z = w.heap.size := ⟨_, rfl⟩
  have F0 : Fr (fun _ => False) w (w.alloc (.cells #[.int .i64 0, .slice none 0 0] 172)) := (Fr.refl w).alloc _
  have BZ := Blk.new w 172 #[.int .i64 0, .slice none 0 0]
  rw [← hz] at BZ
  have H := Lib.hid (h.step (K' := fun k => K k ∨ w.heap.size ≤ k) F0 (fun _ _ h => h.elim) (fun _ h => h))
  have e2 := (B2.fr F0 (fun h => h)).cell 0
  have e6 := (B6.fr F0 (fun h => h)).cell 0
  simp at e2 e6
  have HZ := Lib.hid hz
  have HF := Lib.hid F0
  have hzc : z ≠ c := by omega
  clear h hz F0 B2 B6
  go_enter Tryz.func198, Tryz.ntmps198
  go_upto_region 1 with fail
  rw [← HZ.out]
  generalize (w.alloc (.cells #[.int .i64 0, .slice none 0 0] 172)) = w1 at *
  go_wp2_with fail
  refine (back_any H.out p hpq).mono ?_
  rintro e w2 ⟨rfl, C2, F2⟩
  have BZ2 := BZ.fr F2 hzc
  have z0 := BZ2.cell 0
  have z1 := BZ2.cell 1
  have f0 := BZ2.frozen 0
  have f1 := BZ2.frozen 1
  simp at z0 z1
  obtain ⟨BZ3, F3⟩ := set2 BZ2 (.int .i64 0) (.slice none 0 0)
  have hlc2 := C2.lt
  have HC3 := Lib.hid (C2.step (K' := K) F3 (fun k hk e => .inr (by have := HZ.out; omega)) (fun _ h => .inl (.inl h)))
  have HF3 := Lib.hid (((HF.out.mono (T := fun k => k = c) (fun _ _ h => h.elim)).trans F2).trans' F3 (fun i hi e => by have := HZ.out; omega))
  have n0 := BZ3.cell 0
  have n1 := BZ3.cell 1
  simp at n0 n1
  clear C2 F2 F3 BZ3 BZ2 BZ HF H
  go_wp2_with fail
  exact bodyPost_ret (v := .tuple #[.agg #[.int .i64 0, .slice none 0 0], .int .i64 x]) (by simp [results, Tryz.results198, go_sem, n0, n1]) rfl ⟨rfl, HC3.out, HF3.out⟩
set_option maxRecDepth 20000 in
set_option maxHeartbeats 2000000 in
theorem textRead_any {w : World} {c : Nat} {K : Nat → Prop} {bs : List UInt8} {p : Nat} (h : CurAt w c K bs p) (hT : Tabs w) (hK : ¬ (4 = c ∨ 5 = c)) :
    Calls Tryz.prog 157 #[pt c, .slice none 0 0] w fun e w' => TextOut w w' c K bs p e ∧ Fr (fun k => k = c) w w' := by
  have hlc := h.lt
  have hle := h.le
  have hsm := h.small
  obtain ⟨z, hz⟩ : ∃ z, z = w.heap.size := ⟨_, rfl⟩
  have F0 : Fr (fun _ => False) w (((w.alloc (.cells #[pt c] 50)).alloc (.cells #[.int .i64 0, .slice none 0 0] 172)).alloc (.cells #[.int .i64 12, .int .i64 19, .int .i64 20, .int .i64 22, .int .i64 26, .int .i64 30] 3)) := (((Fr.refl w).alloc _).alloc _).alloc _
  have BP := ((Blk.new w 50 #[pt c]).alloc (.cells #[.int .i64 0, .slice none 0 0] 172)).alloc (.cells #[.int .i64 12, .int .i64 19, .int .i64 20, .int .i64 22, .int .i64 26, .int .i64 30] 3)
  have BZ := (Blk.new (w.alloc (.cells #[pt c] 50)) 172 #[.int .i64 0, .slice none 0 0]).alloc (.cells #[.int .i64 12, .int .i64 19, .int .i64 20, .int .i64 22, .int .i64 26, .int .i64 30] 3)
  have BY := Blk.new ((w.alloc (.cells #[pt c] 50)).alloc (.cells #[.int .i64 0, .slice none 0 0] 172)) 3 #[.int .i64 12, .int .i64 19, .int .i64 20, .int .i64 22, .int .i64 26, .int .i64 30]
  have H := Lib.hid (h.step (K' := fun k => K k ∨ w.heap.size ≤ k) F0 (fun _ _ h => h.elim) (fun _ h => h))
  rw [World.size_alloc, World.size_alloc] at BY
  rw [World.size_alloc] at BZ
  rw [← hz] at BP BZ BY
  have HZ := Lib.hid hz
  have HF := Lib.hid (F0.mono (T := fun k => k = c) (fun _ _ h => h.elim))
  have HT := Lib.hid (hT.old F0)
  have hzc : c < z := by omega
  clear h hz F0 hT
  go_enter Tryz.func157, Tryz.ntmps157
  go_upto_region 3 with (first | (go_at_call 197; go_in))
  rw [← HZ.out]
  generalize (((w.alloc (.cells #[pt c] 50)).alloc (.cells #[.int .i64 0, .slice none 0 0] 172)).alloc (.cells #[.int .i64 12, .int .i64 19, .int .i64 20, .int .i64 22, .int .i64 26, .int .i64 30] 3)) = w0 at *
  have p0 := BP.cell 0
  simp at p0
  have hy := BY.lt
  go_wp2_with fail
  refine (at_any H.out).mono ?_
  rintro e w' ⟨rfl, rfl⟩
  go_upto_region 4 with fail
  obtain ⟨t, ht⟩ : ∃ t, t = w0.heap.size := ⟨_, rfl⟩
  have BT := Blk.new w0 3 #[.int .i64 p]
  have F1 : Fr (fun _ => False) w0 (w0.alloc (.cells #[.int .i64 p] 3)) := (Fr.refl w0).alloc _
  have BP1 := BP.fr F1 (fun h => h)
  have BZ1 := BZ.fr F1 (fun h => h)
  have BY1 := BY.fr F1 (fun h => h)
  have HT1 := Lib.hid (HT.out.old F1)
  have H1 := Lib.hid (H.out.old F1)
  have HF1 := Lib.hid (HF.out.trans (F1.mono (fun _ _ h => h.elim)))
  rw [← ht] at BT ⊢
  have hzt : z + 3 ≤ t := by omega
  clear p0 BP BZ BY HT H HF F1 ht
  generalize (w0.alloc (.cells #[.int .i64 p] 3)) = w1 at *
  have p0 := BP1.cell 0
  simp at p0
  go_wp2_with fail
  refine (headRead_any H1.out).mono ?_
  rintro e w2 ⟨⟨tg, n, x, rfl, hout⟩, C2, F2⟩
  obtain ⟨tc, tn, tm⟩ := tg
  rw [show tagV ⟨tc, tn, tm⟩ = .agg #[.int .i64 tc, .int .i64 tn, .bool tm] from rfl]
  have ht1 := BT.lt
  have h1c := H1.out.lt
  have BP2 := BP1.fr F2 (by omega)
  have BZ2 := BZ1.fr F2 (by omega)
  have BY2 := BY1.fr F2 (by omega)
  have BT2 := BT.fr F2 (by omega)
  go_upto_region 5 with fail
  obtain ⟨g, hg⟩ : ∃ g, g = w2.heap.size := ⟨_, rfl⟩
  have hgt : t < g := by have := BT2.lt; omega
  have BG := Blk.new w2 97 #[.int .i64 tc, .int .i64 tn, .bool tm]
  have F3 : Fr (fun _ => False) w2 (w2.alloc (.cells #[.int .i64 tc, .int .i64 tn, .bool tm] 97)) := (Fr.refl w2).alloc _
  replace BP2 := BP2.fr F3 (fun h => h)
  replace BZ2 := BZ2.fr F3 (fun h => h)
  replace BY2 := BY2.fr F3 (fun h => h)
  replace BT2 := BT2.fr F3 (fun h => h)
  have HC3 := Lib.hid (C2.old F3)
  have HF3 := Lib.hid ((HF1.out.trans F2).trans (F3.mono (fun _ _ h => h.elim)))
  have HT3 := Lib.hid ((HT1.out.fr F2 (fun e => hK (.inl e)) (fun e => hK (.inr e))).old F3)
  have HO := Lib.hid hout
  rw [← hg] at BG ⊢
  clear p0 BP1 BZ1 BY1 BT HT1 H1 HF1 F2 F3 C2 hg hout ht1 h1c
  generalize (w2.alloc (.cells #[.int .i64 tc, .int .i64 tn, .bool tm] 97)) = w3 at *
  have z0 := BZ2.cell 0
  have z1 := BZ2.cell 1
  have f0 := BZ2.frozen 0
  have f1 := BZ2.frozen 1
  have q0 := BP2.cell 0
  have q1 := BT2.cell 0
  simp at z0 z1 q0 q1
  by_cases hx : x = 0
  · subst hx
    obtain ⟨k, hr⟩ : ∃ k, readS (bs.drop p) = .ok (⟨tc, tn, tm⟩, n, k) := by
      have ho := HO.out
      cases hr : readS (bs.drop p) with
      | error e => rw [hr] at ho; exact absurd ho.symm (readS_err hr)
      | ok vk => obtain ⟨v, m, k⟩ := vk; rw [hr] at ho; exact ⟨k, by rw [ho.1, ho.2.1]⟩
    have hc3 := HC3.out
    rw [hr] at hc3
    have HC4 := Lib.hid (show CurAt w3 c (fun k => K k ∨ w.heap.size ≤ k) bs (p + k) from hc3)
    have hpk : p + k ≤ bs.length := HC4.out.le
    have hts : textReadS (bs.drop p) = if tc ≠ 0 ∨ tm = true ∨ Go.Q.kindOk tn = false then .error 4 else if (bs.drop p).length - k < n then .error 3 else if rightS tn (((bs.drop p).drop k).take n) = true then .ok (tn, ((bs.drop p).drop k).take n, k + n) else .error 6 := by unfold textReadS; rw [hr]
    rw [List.length_drop, List.drop_drop] at hts
    have HTS := Lib.hid hts
    have HTC := Lib.hid (show ∀ W, Fr (fun k => k = c) w W → Blk W (z + 1) 172 #[.int .i64 0, .slice none 0 0] → ∀ er : Int, textReadS (bs.drop p) = .error er → er ≠ 0 → CurAt W c (fun k => K k ∨ w.heap.size ≤ k) bs p → ∃ W', W' = (W.setCell ⟨z + 1, 0, none⟩ (.int .i64 0)).setCell ⟨z + 1, 1, none⟩ (.slice none 0 0) ∧ Blk W' (z + 1) 172 #[.int .i64 0, .slice none 0 0] ∧ TextOut w W' c K bs p (.returned (.tuple #[.agg #[.int .i64 0, .slice none 0 0], .int .i64 er])) ∧ Fr (fun k => k = c) w W' from fun W FW BW er hs her hcw => by
      obtain ⟨BZ3, F4⟩ := set2 BW (.int .i64 0) (.slice none 0 0)
      refine ⟨_, rfl, BZ3, ?_, FW.trans' F4 (fun i hi e => by have := HZ.out; omega)⟩
      unfold TextOut
      rw [hs]
      exact ⟨rfl, her, hcw.step F4 (fun k hk e => .inr (by have := HZ.out; omega)) (fun _ h => .inl (.inl h))⟩)
    clear hr hc3 hts HC3 HO
    have HFAIL := Lib.hid (textFail_any (p := p) 4 HC4.out (by omega) BP2 BT2)
    have hcn := Go.Proofs.Tryz.slices_Contains_int (z + 1 + 1) 0 6 6 [12, 19, 20, 22, 26, 30] tn w3 (by simp) (by omega) (fun j hj => by
      rw [Nat.zero_add, BY2.cell]
      match j, hj with
      | 0, _ => rfl
      | 1, _ => rfl
      | 2, _ => rfl
      | 3, _ => rfl
      | 4, _ => rfl
      | 5, _ => rfl
      | j + 6, hj => simp at hj; omega)
    rw [show ([12, 19, 20, 22, 26, 30] : List Int).take 6 = [12, 19, 20, 22, 26, 30] from rfl, kind_contains] at hcn
    have HCN := Lib.hid (show Calls Tryz.prog 199 #[.slice (some ⟨z + 1 + 1, 0, none⟩) 6 6, .int .i64 tn] w3 fun e w' => e = .returned (.bool (Go.Q.kindOk tn)) ∧ w3 = w' from hcn.mono (fun _ _ h => ⟨h.1, h.2.symm⟩))
    clear hcn
    have g0 := BG.cell 0
    have g1 := BG.cell 1
    have g2 := BG.cell 2
    simp at g0 g1 g2
    by_cases hb : tc ≠ 0 ∨ tm = true ∨ Go.Q.kindOk tn = false
    · have hs : textReadS (bs.drop p) = .error 4 := by rw [HTS.out, if_pos hb]
      have HS := Lib.hid hs
      clear hs
      have hcase : ((tc == 0) = false ∧ (tc != 0) = true) ∨ (tc = 0 ∧ tm = true) ∨ (tc = 0 ∧ tm = false ∧ Go.Q.kindOk tn = false) := by
        by_cases h0 : tc = 0
        · cases tm with
          | true => exact .inr (.inl ⟨h0, rfl⟩)
          | false => rcases hb with h | h | h
                     · exact absurd h0 h
                     · cases h
                     · exact .inr (.inr ⟨h0, rfl, h⟩)
        · exact .inl ⟨beq_eq_false_iff_ne.2 h0, by simpa using h0⟩
      clear hb
      rcases hcase with ⟨h, h'⟩ | ⟨rfl, rfl⟩ | ⟨rfl, rfl, hkn⟩
      all_goals
        go_wp2_with (first | (go_at_call 199; refine HCN.out.mono ?_; rintro e w' ⟨rfl, rfl⟩))
        refine HFAIL.out.mono ?_
        rintro e w5 ⟨rfl, C5, F5⟩
        have BZ5 := BZ2.fr F5 (by omega)
        obtain ⟨W', hW', BW', hout, FW'⟩ := HTC.out w5 (HF3.out.trans F5) BZ5 4 HS.out (by decide) C5
        have HOUT := Lib.hid hout
        have HFW := Lib.hid FW'
        have HWW := Lib.hid hW'
        have z0' := BZ5.cell 0
        have z1' := BZ5.cell 1
        have f0' := BZ5.frozen 0
        have f1' := BZ5.frozen 1
        simp at z0' z1'
        have n0 := BW'.cell 0
        have n1 := BW'.cell 1
        simp at n0 n1
        clear C5 F5 BZ5 hW' BW' hout FW'
        go_wp2_with fail
        rw [← HWW.out]
        refine bodyPost_ret (v := .tuple #[.agg #[.int .i64 0, .slice none 0 0], .int .i64 4]) (by simp [results, Tryz.results157, go_sem, n0, n1]) rfl ⟨HOUT.out, HFW.out⟩
    · have hb0 : tc = 0 ∧ tm = false ∧ Go.Q.kindOk tn = true := by
        refine ⟨Classical.byContradiction fun h => hb (.inl h), ?_, ?_⟩
        · cases tm with
          | true => exact absurd (.inr (.inl rfl)) hb
          | false => rfl
        · cases h : Go.Q.kindOk tn with
          | true => rfl
          | false => exact absurd (.inr (.inr h)) hb
      have hs1 := HTS.out
      rw [if_neg hb] at hs1
      obtain ⟨rfl, rfl, hkn⟩ := hb0
      clear hb
      by_cases hn : bs.length - (p + k) < n
      · rw [if_pos (by omega)] at hs1
        have HS := Lib.hid hs1
        have HTK := Lib.hid (take_end HC4.out n hn)
        clear hs1
        go_wp2_with (first | (go_at_call 199; refine HCN.out.mono ?_; rintro e w' ⟨rfl, rfl⟩))
        refine HTK.out.mono ?_
        rintro e w4 ⟨rfl, F4⟩
        have BP4 := BP2.fr F4 (fun h => h)
        have BT4 := BT2.fr F4 (fun h => h)
        have BZ4 := BZ2.fr F4 (fun h => h)
        have HFAIL3 := Lib.hid (textFail_any (p := p) 3 (HC4.out.old F4) (by omega) BP4 BT4)
        have HF4 := Lib.hid (HF3.out.trans (F4.mono (fun _ _ h => h.elim)))
        clear F4 BP4 BT4 BP2 BT2 BY2 HCN g0 g1 g2 z0 z1 f0 f1 q0 q1 BZ2
        go_wp2_with fail
        refine HFAIL3.out.mono ?_
        rintro e w5 ⟨rfl, C5, F5⟩
        have BZ5 := BZ4.fr F5 (by omega)
        obtain ⟨W', hW', BW', hout, FW'⟩ := HTC.out w5 (HF4.out.trans F5) BZ5 3 HS.out (by decide) C5
        have HOUT := Lib.hid hout
        have HFW := Lib.hid FW'
        have HWW := Lib.hid hW'
        have z0' := BZ5.cell 0
        have z1' := BZ5.cell 1
        have f0' := BZ5.frozen 0
        have f1' := BZ5.frozen 1
        simp at z0' z1'
        have n0 := BW'.cell 0
        have n1 := BW'.cell 1
        simp at n0 n1
        clear C5 F5 BZ5 hW' BW' hout FW'
        go_wp2_with fail
        rw [← HWW.out]
        refine bodyPost_ret (v := .tuple #[.agg #[.int .i64 0, .slice none 0 0], .int .i64 3]) (by simp [results, Tryz.results157, go_sem, n0, n1]) rfl ⟨HOUT.out, HFW.out⟩
      · rw [if_neg (by omega)] at hs1
        obtain ⟨b, hbb⟩ : ∃ b, b = (bs.drop (p + k)).take n := ⟨_, rfl⟩
        have hbl : b.length = n := by rw [hbb, List.length_take, List.length_drop]; omega
        rw [← hbb] at hs1
        have HS := Lib.hid hs1
        have HTK := take_ok HC4.out n (by omega)
        rw [← hbb] at HTK
        have HTK := Lib.hid HTK
        have hl3 := BG.lt
        clear hs1 hbb
        go_wp2_with (first | (go_at_call 199; refine HCN.out.mono ?_; rintro e w' ⟨rfl, rfl⟩))
        refine HTK.out.mono ?_
        rintro e w4 ⟨v4, rfl, ho4, C4, F4⟩
        have BP4 := BP2.fr F4 (by omega)
        have BT4 := BT2.fr F4 (by omega)
        have BZ4 := BZ2.fr F4 (by omega)
        have BG4 := BG.fr F4 (by omega)
        have HT4 := Lib.hid (HT3.out.fr F4 (fun e => hK (.inl e)) (fun e => hK (.inr e)))
        obtain ⟨a4, m4, c4, rfl, rfl⟩ := own_shape ho4
        have HF4 := Lib.hid (HF3.out.trans F4)
        have HO4 := Lib.hid ho4
        have HC5 := Lib.hid C4
        have hv4 := (Vals.of_own ho4).1
        clear HT3 HC4 F4 BP2 BT2 BY2 HCN g0 g1 g2 z0 z1 f0 f1 q0 q1 BZ2 BG C4 ho4 HTK
        have g1 := BG4.cell 1
        simp at g1
        go_upto_region 14 with fail
        obtain ⟨y, hy⟩ : ∃ y, y = w4.heap.size := ⟨_, rfl⟩
        have BX := Blk.new w4 172 #[.int .i64 tn, .slice a4 m4 c4]
        have F5 : Fr (fun _ => False) w4 (w4.alloc (.cells #[.int .i64 tn, .slice a4 m4 c4] 172)) := (Fr.refl w4).alloc _
        have hv5 := hv4.old F5
        have HR := Lib.hid (rightText_any tn _ b _ hv5 (HT4.out.old F5))
        have BP5 := BP4.fr F5 (fun h => h)
        have BT5 := BT4.fr F5 (fun h => h)
        have BZ5 := BZ4.fr F5 (fun h => h)
        have HC5' := Lib.hid (HC5.out.old F5)
        have HO5 := Lib.hid (ownsRow_fr HO4.out F5 (fun _ _ h => h))
        have HF5 := Lib.hid (HF4.out.trans (F5.mono (fun _ _ h => h.elim)))
        rw [← hy] at BX ⊢
        clear HC5 HO4 HF4 F5 BP4 BT4 BZ4 BG4 hv4 hv5 g1 hy HT4
        generalize (w4.alloc (.cells #[.int .i64 tn, .slice a4 m4 c4] 172)) = w5 at *
        have x0 := BX.cell 0
        have x1 := BX.cell 1
        simp at x0 x1
        cases hrt : rightS tn b with
        | false =>
          have hs1 := HS.out
          rw [hrt] at hs1
          simp only [Bool.false_eq_true, ↓reduceIte] at hs1
          rw [hrt] at HR
          have HS6 := Lib.hid hs1
          clear hs1 HS hrt
          go_wp2_with (first | (go_at_call 195; refine HR.out.mono ?_; rintro e w6 ⟨rfl, F6⟩))
          have HFAIL6 := Lib.hid (textFail_any (p := p) 6 (HC5'.out.old F6) (by omega) (BP5.fr F6 (fun h => h)) (BT5.fr F6 (fun h => h)))
          refine HFAIL6.out.mono ?_
          rintro e w7 ⟨rfl, C7, F7⟩
          have BZ7 := (BZ5.fr F6 (fun h => h)).fr F7 (by omega)
          obtain ⟨W', hW', BW', hout, FW'⟩ := HTC.out w7 ((HF5.out.trans (F6.mono (fun _ _ h => h.elim))).trans F7) BZ7 6 HS6.out (by decide) C7
          have HOUT := Lib.hid hout
          have HFW := Lib.hid FW'
          have HWW := Lib.hid hW'
          have z0' := BZ7.cell 0
          have z1' := BZ7.cell 1
          have f0' := BZ7.frozen 0
          have f1' := BZ7.frozen 1
          simp at z0' z1'
          have n0 := BW'.cell 0
          have n1 := BW'.cell 1
          simp at n0 n1
          clear C7 F7 BZ7 hW' BW' hout FW'
          go_wp2_with fail
          rw [← HWW.out]
          refine bodyPost_ret (v := .tuple #[.agg #[.int .i64 0, .slice none 0 0], .int .i64 6]) (by simp [results, Tryz.results157, go_sem, n0, n1]) rfl ⟨HOUT.out, HFW.out⟩
        | true =>
          have hs1 := HS.out
          rw [hrt] at hs1
          simp only [↓reduceIte] at hs1
          rw [hrt] at HR
          have HS6 := Lib.hid hs1
          clear hs1 HS hrt
          go_wp2_with (first | (go_at_call 195; refine HR.out.mono ?_; rintro e w6 ⟨rfl, F6⟩; have BX6 := BX.fr F6 (fun h => h); have BZ6 := BZ5.fr F6 (fun h => h); have x0' := BX6.cell 0; have x1' := BX6.cell 1; have z0' := BZ6.cell 0; have z1' := BZ6.cell 1; have f0' := BZ6.frozen 0; have f1' := BZ6.frozen 1; simp only [List.getElem?_toArray, List.getElem?_cons_succ, List.getElem?_cons_zero] at x0' x1' z0' z1'))
          obtain ⟨BZ7, F7⟩ := set2 (BZ5.fr F6 (fun h => h)) (.int .i64 tn) (.slice a4 m4 c4)
          have n0 := BZ7.cell 0
          have n1 := BZ7.cell 1
          simp at n0 n1
          have hob : ∀ q, (Value.slice a4 m4 c4).ownBlock = some q → w3.heap.size ≤ q := fun q hq => ((Vals.of_own HO5.out).2 q hq).1
          have HO7 := Lib.hid (own_le (ownsRow_fr (ownsRow_fr HO5.out F6 (fun _ _ h => h)) F7 (fun q hq e => by have := hob q hq; omega)) (base' := w.heap.size) (by have := HZ.out; omega))
          have HC7 := Lib.hid ((HC5'.out.old F6).step (K' := K) F7 (fun q hq e => .inr (by have := HZ.out; omega)) (fun _ h => .inl (.inl h)))
          have HF7 := Lib.hid ((HF5.out.trans (F6.mono (fun _ _ h => h.elim))).trans' F7 (fun i hi e => by have := HZ.out; omega))
          refine bodyPost_ret (v := .tuple #[.agg #[.int .i64 tn, .slice a4 m4 c4], .int .i64 0]) (by simp [results, Tryz.results157, go_sem, n0, n1]) rfl ⟨?_, HF7.out⟩
          unfold TextOut
          rw [HS6.out]
          have hc7 := HC7.out
          rw [Nat.add_assoc] at hc7
          simp only
          exact ⟨⟨_, rfl, by rw [hbl]; exact HO7.out⟩, hc7⟩
  · have hx1 : (x == 0) = false := beq_eq_false_iff_ne.2 hx
    have hr : readS (bs.drop p) = .error x := by
      have ho := HO.out
      cases hr : readS (bs.drop p) with
      | error e => rw [hr] at ho; rw [show x = e from ho]
      | ok vk => obtain ⟨v, m, k⟩ := vk; rw [hr] at ho; exact absurd ho.2.2 hx
    have hs : textReadS (bs.drop p) = .error x := by unfold textReadS; rw [hr]
    have hc3 := HC3.out
    rw [hr] at hc3
    obtain ⟨BZ3, F4⟩ := set2 BZ2 (.int .i64 0) (.slice none 0 0)
    have HC4 := Lib.hid (CurAt.step (K' := K) hc3 F4 (fun k hk e => .inr (by have := HZ.out; omega)) (fun _ h => .inl (.inl h)))
    have HF4 := Lib.hid (HF3.out.trans' F4 (fun i hi e => by have := HZ.out; omega))
    have HS := Lib.hid hs
    have n0 := BZ3.cell 0
    have n1 := BZ3.cell 1
    simp at n0 n1
    have hxn := Lib.hid hx
    clear hr hs hc3 F4 BZ3 BZ2 BP2 BY2 BT2 BG HC3 HF3 hx
    go_wp2_with fail
    refine bodyPost_ret (v := .tuple #[.agg #[.int .i64 0, .slice none 0 0], .int .i64 x]) (by simp [results, Tryz.results157, go_sem, n0, n1]) rfl ⟨?_, HF4.out⟩
    unfold TextOut
    rw [HS.out]
    exact ⟨rfl, hxn.out, HC4.out⟩
end Go.Proofs.YthamenngccaijaaGreatDoor

namespace Go.Q
open Go Go.RowKit
theorem Vals.part {w : World} {a : Option Addr} {m cap : Nat} {l : List UInt8} (h : Bytes w (.slice a m cap) l) (i n : Nat) (hij : i + n ≤ l.length) (a' : Option Addr) (cap' : Nat) (ha : 0 < n → ∀ b o, a = some ⟨b, o, none⟩ → a' = some ⟨b, o + i, none⟩) (hc : n ≤ cap') (hm : cap' ≤ maxLen) : Bytes w (.slice a' n cap') ((l.drop i).take n) := by
  obtain ⟨a0, c0, he, -⟩ := Vals.form h
  simp only [Value.slice.injEq] at he
  obtain ⟨rfl, rfl, rfl⟩ := he
  have := Vals.sub h i (i + n) (by omega) hij a' cap' (fun h0 => ha (by omega)) (by omega) hm
  rw [show i + n - i = n from by omega] at this
  unfold Bytes Lib.byteCells
  rw [List.map_take, List.map_drop]
  exact this
end Go.Q
namespace Go.Proofs.YthamenngccaijaaGreatDoor
open Go Go.RowKit Go.Q
set_option linter.unusedSimpArgs false
def RTextOut (wb : World) (l : List UInt8) (p : Nat) (e : Ending) : Prop :=
  match textReadS (l.drop p) with
  | .error x => e = .returned (.tuple #[.agg #[.int .i64 0, .slice none 0 0], .int .i64 p, .int .i64 x])
  | .ok (k, b, n) => ∃ u, e = .returned (.tuple #[.agg #[.int .i64 k, u], .int .i64 ((p + n : Nat) : Int), .int .i64 0]) ∧ Bytes wb u b
end Go.Proofs.YthamenngccaijaaGreatDoor

namespace Go.Q
open Go
end Go.Q
namespace Go.Proofs.YthamenngccaijaaGreatDoor
open Go Go.RowKit Go.Q
set_option linter.unusedSimpArgs false
end Go.Proofs.YthamenngccaijaaGreatDoor

namespace Go.Proofs.YthamenngccaijaaGreatDoor
open Go Go.RowKit Go.Q
set_option linter.unusedSimpArgs false
end Go.Proofs.YthamenngccaijaaGreatDoor

namespace Go.Proofs.YthamenngccaijaaGreatDoor
open Go Go.RowKit Go.Q
set_option linter.unusedSimpArgs false
end Go.Proofs.YthamenngccaijaaGreatDoor

namespace Go.Q
open Go Go.RowKit
def leastK (l : List UInt8) : Int := if rightS 19 l = true then 19 else if rightS 12 l = true then 12 else 20
end Go.Q
namespace Go.Proofs.YthamenngccaijaaGreatDoor
open Go Go.RowKit Go.Q
end Go.Proofs.YthamenngccaijaaGreatDoor

namespace Go.Q
open Go Go.RowKit
abbrev BldAt (w : World) (base b : Nat) (l : List UInt8) : Prop := Lib.IsBuilder 276 5 base b (Lib.byteCells l) w
theorem BldAt.old {w w' : World} {base b : Nat} {l : List UInt8} (h : BldAt w base b l) (f : Fr (fun _ => False) w w') : BldAt w' base b l := by
  have g : ∀ p, Lib.BuilderAt 276 5 base b p (Lib.byteCells l) w → Lib.BuilderAt 276 5 base b p (Lib.byteCells l) w' := by
    rintro p ⟨hB, v, hb, hown, hne⟩
    exact ⟨hB, v, (f.block b (Array.getElem?_eq_some_iff.1 hb).1 (fun h => h)).trans hb, Go.Proofs.YthamenngccaijaaGreatDoor.ownsRow_fr hown f (fun _ _ h => h), hne⟩
  rcases h with h | h
  · exact .inl (g _ h)
  · exact .inr (g _ h)
theorem BldAt.new (w : World) : BldAt (w.alloc (.cells #[.pointer none, .slice none 0 0] 276)) w.heap.size w.heap.size [] :=
  .inl ⟨Nat.le_refl _, .slice none 0 0, Blk.new w _ _, ⟨rfl, .inl ⟨rfl, rfl⟩⟩, by simp [Value.ownBlock]⟩
theorem Fr.of_below_at {B : Nat} {w w' : World} (h : Below B w w') : Fr (fun k => B ≤ k) w w' := ⟨h.os, h.tape, h.output, h.size, fun k _ hk => h.block k (by omega)⟩
end Go.Q
namespace Go.Proofs.YthamenngccaijaaGreatDoor
open Go Go.RowKit Go.Q
abbrev Pows (w : World) : Prop := Lib.TabIs Tryz.prog w "internal/strconv.uint64pow10" .u64 Lib.pow10Tab
theorem Pows.fr {S : Nat → Prop} {w w' : World} (h : Pows w) (f : Fr S w w') (hS : ¬ S 0) : Pows w' := by
  have hg : Tryz.prog.globalNamed "internal/strconv.uint64pow10" = some 0 := by kernel_rfl
  unfold Pows Lib.TabIs at *
  rw [← h]
  unfold World.var? at *
  rw [hg] at h ⊢
  simp only [Option.bind_some] at h ⊢
  have hlt : 0 < w.heap.size := by
    rcases Nat.lt_or_ge 0 w.heap.size with h1 | h1
    · exact h1
    · rw [Array.getElem?_eq_none h1] at h; cases h
  rw [f.block _ hlt hS]
theorem Pows.old {w w' : World} (h : Pows w) (f : Fr (fun _ => False) w w') : Pows w' := h.fr f (fun h => h)
set_option maxRecDepth 100000 in
theorem bldCheck_any {w : World} {base b : Nat} {l : List UInt8} (h : BldAt w base b l) :
    Calls Tryz.prog 255 #[pt b] w fun e w' => e = .returned (.tuple #[]) ∧ Lib.BuilderAt 276 5 base b (pt b) (Lib.byteCells l) w' ∧ Below base w w' := by
  have hsz : (Tryz.prog.info? 276).map (·.size) = some 2 := by kernel_rfl
  obtain ⟨j, hj, hjs⟩ := Option.map_eq_some_iff.1 hsz
  rcases h with h | h
  · have h0 := h.cell0
    have hsh := h.shape
    have hfz := h.frozen0
    have H := Lib.hid h
    clear h hsz
    have hl : liesAt Tryz.prog Tryz.prog.depth 276 (2 / Tryz.prog.cellsOf 276) 0 276 1 = true := by kernel_rfl
    have r1 := Lib.run_to_unsafe (P := Tryz.prog) w ⟨b, 0, none⟩ Tryz.underlying274 Tryz.underlying338 hj (by rw [hjs]; decide) hsh (Nat.zero_lt_succ 1)
    have r3 := Lib.run_from_unsafe (P := Tryz.prog) w ⟨b, 0, none⟩ Tryz.underlying338 Tryz.underlying274 hj hsh hl
    have r2 : (callFunc 299 #[.pointer (some ⟨b, 0, none⟩)]).run Tryz.prog w = .ok (.value (.pointer (some ⟨b, 0, none⟩))) w := by
      rw [run_callFunc_extern Tryz.func299 (by kernel_rfl) (by kernel_rfl) (by kernel_rfl) (e := Extern.AbiNoEscape.same) (by kernel_rfl), Lib.run_noEscape]
      rfl
    go_enter Tryz.func255, Tryz.ntmps255
    go_wp2
    go_end0
    exact ⟨rfl, H.out.used _, (Below.refl base w).setCell (p := ⟨b, 0, none⟩) H.out.1 _⟩
  · have h0 := h.cell0
    have H := Lib.hid h
    have r1 := Lib.run_neq_ptr_same (P := Tryz.prog) w (tp := 274) ⟨b, 0, none⟩ Tryz.underlying274 hj
    clear h hsz
    go_enter Tryz.func255, Tryz.ntmps255
    go_wp2
    go_end0
    exact ⟨rfl, H.out, Below.refl base w⟩
theorem info_u8 : (Tryz.prog.info? 5).map (fun i => (i.zero, i.size, i.bytes)) = some (some (.int .u8 0), 1, 1) := by kernel_rfl
theorem bld_put {w w2 : World} {base b : Nat} {l m : List UInt8} {v v' : Value} (hB : base ≤ b) (hbk : w.heap[b]? = some (.cells #[pt b, v] 276 (0, 0))) (hne : v.ownBlock ≠ some b) (F : Fr (fun k => v.ownBlock = some k) w w2) (hown : w2.ownsRow base 5 1 v' (l ++ m).length (Lib.byteCells (l ++ m))) :
    w2.heap[b]? = some (.cells #[pt b, v] 276 (0, 0)) ∧ BldAt (w2.setCell ⟨b, 1, none⟩ v') base b (l ++ m) := by
  have hb2 : w2.heap[b]? = some (.cells #[pt b, v] 276 (0, 0)) := (F.block b (Array.getElem?_eq_some_iff.1 hbk).1 hne).trans hbk
  exact ⟨hb2, .inr (Lib.BuilderAt.put (T := 276) (e := 5) hB hb2 (bs' := Lib.byteCells (l ++ m)) (by rw [byteCells_len]; exact hown) (by decide))⟩
set_option maxRecDepth 100000 in
theorem bldByte_any {w : World} {base b : Nat} {l : List UInt8} (c : UInt8) (h : BldAt w base b l) (hl : l.length ≤ 109951162777) (hbw : base ≤ w.heap.size) :
    Calls Tryz.prog 287 #[pt b, .int .u8 c.toNat] w fun e w' => e = .returned .nilIface ∧ BldAt w' base b (l ++ [c]) ∧ Below base w w' := by
  have HC := Lib.hid (bldCheck_any h)
  clear h
  go_enter Tryz.func287, Tryz.ntmps287
  go_wp2_with fail
  refine HC.out.mono ?_
  rintro e w1 ⟨rfl, ⟨hB, v, hbk, hown, hne⟩, hb1⟩
  rw [byteCells_len] at hown
  have c1 : w1.cell? ⟨b, 1, none⟩ = some v := by rw [Lib.cell_of_heap hbk]; rfl
  have F1 : Fr (fun _ => False) w1 (w1.alloc (.cells #[.int .u8 c.toNat] 5)) := (Fr.refl w1).alloc _
  have hs1 := hb1.size
  obtain ⟨a', c', w2, hrun, hown2, F2, hk2⟩ := add_gen Tryz.underlying23 info_u8 rfl (by decide) (by decide) hown (by omega) F1 w1.heap.size [.int .u8 c.toNat] rfl (Blk.new w1 5 #[.int .u8 c.toNat]) (by simp [Value.oneCell']) (by omega)
  have hown2' : w2.ownsRow base 5 1 (.slice a' (l.length + 1) c') (l ++ [c]).length (Lib.byteCells (l ++ [c])) := by
    rw [byteCells_append, List.length_append]
    exact hown2
  obtain ⟨hb2, hat⟩ := bld_put hB hbk hne F2 hown2'
  have HRUN := Lib.hid hrun
  have HAT := Lib.hid hat
  have d1 : w2.cell? ⟨b, 1, none⟩ = some v := by rw [Lib.cell_of_heap hb2]; rfl
  have f1 : w2.frozen? ⟨b, 1, none⟩ = false := Lib.frozen_of_heap hb2 1
  have hvb := (Vals.of_own hown).2
  have HBL := Lib.hid ((hb1.trans (Fr.below (B := base) F2 (by omega) (fun i hi e => by have := (hvb i e).1; omega))).setCell (p := ⟨b, 1, none⟩) hB (.slice a' (l.length + 1) c'))
  clear HC hbk hown F1 F2 hrun hown2 hown2' hb2 hat hk2 hb1 hne hvb
  go_wp2_with (at_builtin; refine wpList_append_run (by rfl) (.tmp 11) (.tmp 13) 23 (by rfl) _ w2 (by exact HRUN.out) ?_)
  go_ret
  exact ⟨rfl, HAT.out, HBL.out⟩
set_option maxRecDepth 100000 in
theorem bldString_any {w : World} {base b : Nat} {l : List UInt8} (m : List UInt8) (h : BldAt w base b l) (hl : l.length + m.length ≤ 1099511627776) (hbw : base ≤ w.heap.size) :
    Calls Tryz.prog 208 #[pt b, str m] w fun e w' => e = .returned (.tuple #[.int .i64 m.length, .nilIface]) ∧ BldAt w' base b (l ++ m) ∧ Below base w w' := by
  have HC := Lib.hid (bldCheck_any h)
  obtain ⟨i0, hi, hz0, hz1, hz2⟩ := info_parts info_u8
  have hms : (ByteArray.mk m.toArray).size = m.length := by simp [ByteArray.size]
  clear h
  go_enter Tryz.func208, Tryz.ntmps208
  go_wp2_with fail
  refine HC.out.mono ?_
  rintro e w1 ⟨rfl, ⟨hB, v, hbk, hown, hne⟩, hb1⟩
  rw [byteCells_len] at hown
  have c1 : w1.cell? ⟨b, 1, none⟩ = some v := by rw [Lib.cell_of_heap hbk]; rfl
  have hs1 := hb1.size
  go_wp2_with (at_builtin; refine Lib.wpList_append_own_string _ (by rfl) (.tmp 12) (.tmp 13) 23 9 (by rfl) base 5 i0 Tryz.underlying23 Tryz.underlying9 hi hz0 hz1 hz2 _ _ _ (by rfl) hown ⟨m.toArray⟩ (by rfl) ?c3 ?c4 ?c5 ?_)
  case c3 => rw [hms]; unfold maxLen; omega
  case c4 => rw [hms]; omega
  case c5 => omega
  intro v' w2 hown2 hgrow _
  have F2 := Fr.of_grown hgrow
  have hsc : Lib.strCells ⟨m.toArray⟩ = Lib.byteCells m := rfl
  have hown2' : w2.ownsRow base 5 1 v' (l ++ m).length (Lib.byteCells (l ++ m)) := by
    rw [byteCells_append, List.length_append, ← hsc, ← hms]
    exact hown2
  obtain ⟨hb2, hat⟩ := bld_put hB hbk hne F2 hown2'
  have HAT := Lib.hid hat
  have d1 : w2.cell? ⟨b, 1, none⟩ = some v := by rw [Lib.cell_of_heap hb2]; rfl
  have f1 : w2.frozen? ⟨b, 1, none⟩ = false := Lib.frozen_of_heap hb2 1
  have hvb := (Vals.of_own hown).2
  have HBL := Lib.hid ((hb1.trans (Fr.below (B := base) F2 (by omega) (fun i hi e => by have := (hvb i e).1; omega))).setCell (p := ⟨b, 1, none⟩) hB v')
  have HMS := Lib.hid hms
  obtain ⟨ao, n', cap, rfl, hnn⟩ := own_shape hown2
  have HNN := Lib.hid hnn
  clear HC hbk hown F2 hown2 hown2' hb2 hat hb1 hne hvb hgrow hsc hms hnn hi hz0 hz1 hz2
  go_wp2_with fail
  go_ret2
  exact ⟨by rw [← HMS.out]; rfl, HAT.out, HBL.out⟩
theorem bldOut_any {w : World} {base b : Nat} {l : List UInt8} (h : BldAt w base b l) (hbw : base ≤ w.heap.size) :
    Calls Tryz.prog 209 #[pt b] w fun e w' => e = .returned (str l) ∧ Below base w w' :=
  Go.Proofs.Tryz.Builder_String_any base b l w h hbw
theorem itoa_any (n : Int) (h0 : -9223372036854775808 ≤ n) (h1 : n ≤ 9223372036854775807) (w : World) (hP : Pows w) :
    Calls Tryz.prog 91 #[.int .i64 n] w fun e w' => e = .returned (str (Lib.itoa n)) ∧ Fr (fun _ => False) w w' := by
  refine (Go.Proofs.Tryz.strconv_Itoa n h0 h1 w hP).mono ?_
  rintro e w' ⟨rfl, k, os, rfl⟩
  exact ⟨rfl, rfl, rfl, rfl, by simp [Sort.grow], fun i hi _ => by simp [Sort.grow, Array.getElem?_append_left hi]⟩
end Go.Proofs.YthamenngccaijaaGreatDoor

namespace Go.Q
open Go Go.RowKit
def gLim : Nat := max (max 4 5) (max 0 1) + 1
structure Env (w : World) : Prop where
  tabs : Tabs w
  pows : Go.Proofs.YthamenngccaijaaGreatDoor.Pows w
  top : ∃ m, w.cell? ⟨1, 0, none⟩ = some (.int .i64 m)
  size : gLim ≤ w.heap.size
theorem Env.fr {S : Nat → Prop} {w w' : World} (h : Env w) (f : Fr S w w') (hS : ∀ k, k < gLim → ¬ S k) : Env w' :=
  ⟨h.tabs.fr f (hS _ (by decide)) (hS _ (by decide)), h.pows.fr f (hS _ (by decide)), by
    obtain ⟨m, hm⟩ := h.top
    exact ⟨m, f.cell hm (hS 1 (by decide))⟩, Nat.le_trans h.size f.size⟩
theorem Env.old {w w' : World} (h : Env w) (f : Fr (fun _ => False) w w') : Env w' := h.fr f (fun _ _ h => h)
theorem Env.below {w w' : World} {B : Nat} (h : Env w) (f : Below B w w') (hB : gLim ≤ B) : Env w' := h.fr (Fr.of_below_at f) (fun k hk e => by omega)
def oidTextS : List Int → List UInt8
  | [] => []
  | n :: t => Lib.itoa n ++ t.flatMap (fun m => 46 :: Lib.itoa m)
theorem oidText_first {o : List Int} {n : Int} (h : o[0]? = some n) : oidTextS (o.take 1) = Lib.itoa n := by
  cases o with
  | nil => cases h
  | cons x t => simp at h; subst h; simp [oidTextS]
theorem oidText_next {o : List Int} {j : Nat} {n : Int} (h : o[j + 1]? = some n) : oidTextS (o.take (j + 1 + 1)) = oidTextS (o.take (j + 1)) ++ [46] ++ Lib.itoa n := by
  cases o with
  | nil => cases h
  | cons x t =>
    rw [List.getElem?_cons_succ] at h
    have e : t.take (j + 1) = t.take j ++ [n] := by rw [List.take_add_one, h]; rfl
    rw [List.take_succ_cons, List.take_succ_cons, e]
    simp [oidTextS]
theorem nDigits_le : ∀ (k u : Nat), u < 10 ^ (k + 1) → Lib.nDigits u ≤ k + 1
  | 0, u, h => by rw [Lib.nDigits_small (by simpa using h)]; exact Nat.le_refl _
  | k + 1, u, h => by
    by_cases hu : u < 10
    · rw [Lib.nDigits_small hu]; omega
    · rw [Lib.nDigits_big hu]
      have := nDigits_le k (u / 10) (by rw [Nat.pow_succ] at h; omega)
      omega
theorem itoa_len {n : Int} (h0 : 0 ≤ n) (h1 : n ≤ 9223372036854775807) : (Lib.itoa n).length ≤ 20 := by
  unfold Lib.itoa
  rw [if_neg (by omega), Lib.decDigits_length]
  exact nDigits_le 19 n.toNat (by
    have e : (10 : Nat) ^ (19 + 1) = 100000000000000000000 := by decide
    rw [e]
    omega)
theorem oidText_len {o : List Int} (h : ∀ n ∈ o, 0 ≤ n ∧ n ≤ 9223372036854775807) : (oidTextS o).length ≤ 21 * o.length := by
  have g : ∀ t : List Int, (∀ n ∈ t, 0 ≤ n ∧ n ≤ 9223372036854775807) → (t.flatMap (fun m => 46 :: Lib.itoa m)).length ≤ 21 * t.length := by
    intro t
    induction t with
    | nil => intro _; simp
    | cons x t ih =>
      intro h
      have h1 := itoa_len (h x (by simp)).1 (h x (by simp)).2
      have h2 := ih (fun n hn => h n (by simp [hn]))
      simp only [List.flatMap_cons, List.length_append, List.length_cons] at h2 ⊢
      omega
  cases o with
  | nil => simp [oidTextS]
  | cons x t =>
    have h1 := itoa_len (h x (by simp)).1 (h x (by simp)).2
    have h2 := g t (fun n hn => h n (by simp [hn]))
    simp only [oidTextS, List.length_append, List.length_cons]
    omega
end Go.Q
namespace Go.Proofs.YthamenngccaijaaGreatDoor
open Go Go.RowKit Go.Q
set_option maxRecDepth 20000 in
set_option maxHeartbeats 1000000 in
theorem oidText_any (v : Value) (o : List Int) (w : World) (h : Ints w v o) (ho : oidOk o = true) (hE : Env w) :
    Calls Tryz.prog 251 #[v] w fun e w' => e = .returned (.tuple #[str (oidTextS o), .int .i64 0]) ∧ Fr (fun _ => False) w w' := by
  have H := Lib.hid h
  have HE := Lib.hid hE
  have hR := Lib.hid (oidRight_any v o w h)
  rw [ho] at hR
  obtain ⟨a, cap, rfl, -⟩ := Ints.form h
  have hok := ho
  simp only [oidOk, Bool.and_eq_true, decide_eq_true_eq] at hok
  obtain ⟨⟨⟨hl1, hl2⟩, hall⟩, -⟩ := hok
  have harc : ∀ n ∈ o, 0 ≤ n ∧ n ≤ 9223372036854775807 := fun n hn => by
    have := List.all_eq_true.1 hall n hn
    simp only [arcOk, decide_eq_true_eq] at this
    omega
  have HA := Lib.hid harc
  have HBN := Lib.hid (BldAt.new w)
  obtain ⟨z, hz⟩ : ∃ z, z = w.heap.size := ⟨_, rfl⟩
  have F0 : Fr (fun _ => False) w (w.alloc (.cells #[.pointer none, .slice none 0 0] 276)) := (Fr.refl w).alloc _
  rw [← hz] at HBN
  have HZ := Lib.hid hz
  have HF0 := Lib.hid (F0.below (B := z) (by omega) (fun _ _ h => h))
  have hs0 := F0.size
  have hgl : gLim ≤ z := by rw [hz]; exact hE.size
  clear h hE ho hall harc hz F0
  go_enter Tryz.func251, Tryz.ntmps251
  go_wp2_with fail
  refine hR.out.mono ?_
  rintro e w' ⟨rfl, rfl⟩
  go_upto_region 4 with fail
  rw [← HZ.out]
  generalize (w.alloc (.cells #[.pointer none, .slice none 0 0] 276)) = w1 at *
  have HS0 := Lib.hid hs0
  rw [← HZ.out] at hs0
  go_wp2_with fail
  go_loopg [12] o.length (fun g i wr => ∃ j : Nat, g = o.length - j ∧ j ≤ o.length ∧ i = .int .i64 j ∧ BldAt wr z z (oidTextS (o.take j)) ∧ Below z w wr ∧ z ≤ wr.heap.size)
  case atStart => exact ⟨0, rfl, Nat.zero_le _, rfl, HBN.out, HF0.out, hs0⟩
  case round =>
    obtain ⟨j, hg, hj, rfl, hB, hBl, hsz⟩ := hrel
    have HG := Lib.hid hg
    have HB := Lib.hid hB
    have HBL := Lib.hid hBl
    clear hg hB hBl
    by_cases hjl : j < o.length
    · have hFr : Fr (fun k => z ≤ k) w wr := Fr.of_below_at HBL.out
      have hoff : Off (.slice a o.length cap) (intCells o).length (fun k => z ≤ k) := fun h0 k hk e => by
        have := H.out.lt h0 k hk
        have := HZ.out
        omega
      obtain ⟨a0, cap0, he, _, _, hx⟩ := Ints.form (H.out.fr hFr hoff)
      simp only [Value.slice.injEq, true_and] at he
      obtain ⟨rfl, rfl⟩ := he
      obtain ⟨b, off, rfl, hy⟩ := hx (by omega)
      obtain ⟨n, hn⟩ : ∃ n, o[j]? = some n := ⟨_, List.getElem?_eq_getElem hjl⟩
      have e1 := hy j n hn
      have hn0 := HA.out n (List.mem_of_getElem? hn)
      have hE1 := HE.out.below HBL.out hgl
      have hlen := oidText_len (o := o.take j) (fun m hm => HA.out m (List.mem_of_mem_take hm))
      rw [List.length_take] at hlen
      have r1 : (0 : Int) ≤ (j : Int) := by omega
      have r2 : (j : Int) < (o.length : Int) := by omega
      have HEN := Lib.hid hE1
      have HN := Lib.hid hn
      have hil := itoa_len hn0.1 hn0.2
      clear hx hy hn hFr hoff hE1
      cases j with
      | zero =>
        have hj0 : ¬ (0 : Int) < ((0 : Nat) : Int) := by omega
        have hft := Lib.hid (oidText_first HN.out)
        simp only [Nat.add_zero] at e1
        go_wp2_with fail
        refine (itoa_any n (by omega) hn0.2 wr HEN.out.pows).mono ?_
        rintro e w2 ⟨rfl, F2⟩
        have HB2 := Lib.hid (HB.out.old F2)
        have HBL2 := Lib.hid (HBL.out.trans (F2.below (B := z) hsz (fun _ _ h => h)))
        have hs2 := F2.size
        clear F2
        go_wp2_with fail
        refine (bldString_any _ HB2.out (by omega) (by omega)).mono ?_
        rintro e w3 ⟨rfl, hB3, hb3⟩
        have HB3 := Lib.hid hB3
        have hs3 := hb3.size
        have HBL3 := Lib.hid (HBL2.out.trans hb3)
        clear hB3 hb3
        go_wp2_with fail
        go_roundg (o.length - (0 + 1))
        case measure => rw [HG.out]; omega
        case rel => exact ⟨0 + 1, rfl, by omega, by go_num, by rw [show 0 + 1 = 1 from rfl, hft.out]; simpa [oidTextS] using HB3.out, HBL3.out, by omega⟩
      | succ k =>
        have hj0 : (0 : Int) < ((k + 1 : Nat) : Int) := by omega
        have hft := Lib.hid (oidText_next HN.out)
        go_wp2_with fail
        have hc46 : (46 : Int) = ((46 : UInt8).toNat : Int) := rfl
        refine (bldByte_any 46 HB.out (by omega) hsz).mono ?_
        rintro e w2 ⟨rfl, hB2, hb2⟩
        have HB2 := Lib.hid hB2
        have hs2 := hb2.size
        have HBL2 := Lib.hid (HBL.out.trans hb2)
        clear hB2 hb2
        go_wp2_with fail
        refine (itoa_any n (by omega) hn0.2 _ (HE.out.below HBL2.out hgl).pows).mono ?_
        rintro e w3 ⟨rfl, F3⟩
        have HB3 := Lib.hid (HB2.out.old F3)
        have HBL3 := Lib.hid (HBL2.out.trans (F3.below (B := z) (by omega) (fun _ _ h => h)))
        have hs3 := F3.size
        clear F3
        go_wp2_with fail
        refine (bldString_any _ HB3.out (by rw [List.length_append]; simp only [List.length_singleton]; omega) (by omega)).mono ?_
        rintro e w4 ⟨rfl, hB4, hb4⟩
        have HB4 := Lib.hid hB4
        have hs4 := hb4.size
        have HBL4 := Lib.hid (HBL3.out.trans hb4)
        clear hB4 hb4
        go_wp2_with fail
        go_roundg (o.length - (k + 1 + 1))
        case measure => rw [HG.out]; omega
        case rel => exact ⟨k + 1 + 1, rfl, by omega, by go_num, by rw [hft.out]; exact HB4.out, HBL4.out, by omega⟩
    · have hall : o.take j = o := List.take_of_length_le (by omega)
      have hB := HB.out
      rw [hall] at hB
      have HO := Lib.hid (bldOut_any hB hsz)
      clear hB hall
      go_wp2_with fail
      refine HO.out.mono ?_
      rintro e w2 ⟨rfl, hb2⟩
      have HF := Lib.hid (HBL.out.trans hb2)
      clear hb2
      go_wp2_with fail
      have hf := HF.out
      rw [HZ.out] at hf
      exact bodyPost_ret (v := .tuple #[str (oidTextS o), .int .i64 0]) (by simp [results, Tryz.results251, go_sem]) rfl ⟨rfl, Fr.of_below hf⟩
end Go.Proofs.YthamenngccaijaaGreatDoor

namespace Go.Q
open Go Go.RowKit
abbrev Strs (w : World) (v : Value) (ks : List (List UInt8)) : Prop := Vals w v (ks.map str)
def cutAt (c : UInt8) : List UInt8 → List (List UInt8)
  | [] => [[]]
  | x :: t => if x = c then [] :: cutAt c t else match cutAt c t with
    | [] => [[x]]
    | h :: r => (x :: h) :: r
def cut1 (c : UInt8) : List UInt8 → List UInt8 × List UInt8 × Bool
  | [] => ([], [], false)
  | x :: t => if x = c then ([], t, true) else (x :: (cut1 c t).1, (cut1 c t).2)
theorem index1_nil (c : UInt8) : Lib.index [] [c] = -1 := rfl
theorem index1_eq (c : UInt8) (t : List UInt8) : Lib.index (c :: t) [c] = 0 := by simp [Lib.index]
theorem index1_ne {c x : UInt8} (h : x ≠ c) (t : List UInt8) : Lib.index (x :: t) [c] = if Lib.index t [c] = -1 then -1 else Lib.index t [c] + 1 := by
  have h' : ¬ c = x := fun e => h e.symm
  simp [Lib.index, h']
theorem split_cutAt (c : UInt8) : ∀ l : List UInt8, Lib.splitK [c] 0 (Lib.count l [c]) l = cutAt c l ∧ Lib.count l [c] + 1 = (cutAt c l).length
  | [] => ⟨by rw [Lib.count_miss (index1_nil c)]; rfl, by rw [Lib.count_miss (index1_nil c)]; rfl⟩
  | x :: t => by
    obtain ⟨ih1, ih2⟩ := split_cutAt c t
    have hne : ([c] : List UInt8) ≠ [] := by simp
    by_cases h : x = c
    · subst h
      rw [Lib.count_hit (i := 0) hne (index1_eq x t)]
      have e : (x :: t).drop (0 + [x].length) = t := rfl
      rw [e, show 1 + Lib.count t [x] = Lib.count t [x] + 1 from by omega]
      unfold cutAt
      rw [if_pos rfl]
      refine ⟨?_, by simp [ih2]⟩
      unfold Lib.splitK
      rw [index1_eq, if_neg (by decide)]
      simp [ih1]
    · have hi := index1_ne h t
      have hg := Lib.index_ge t [c]
      unfold cutAt
      rw [if_neg h]
      by_cases hm : Lib.index t [c] = -1
      · rw [if_pos hm] at hi
        rw [Lib.count_miss hi]
        rw [Lib.count_miss hm] at ih1 ih2
        simp only [Lib.splitK] at ih1 ⊢
        rw [← ih1]
        exact ⟨rfl, rfl⟩
      · rw [if_neg hm] at hi
        obtain ⟨i, hii⟩ : ∃ i : Nat, Lib.index t [c] = i := ⟨(Lib.index t [c]).toNat, by omega⟩
        rw [hii] at hi
        have hc1 := Lib.count_hit (i := i + 1) hne (show Lib.index (x :: t) [c] = ((i + 1 : Nat) : Int) by rw [hi]; omega)
        have hc2 := Lib.count_hit (i := i) hne hii
        have e : (x :: t).drop (i + 1 + [c].length) = t.drop (i + [c].length) := by simp only [List.length_singleton]; rfl
        rw [e, ← hc2] at hc1
        rw [hc1]
        rw [hc2, Nat.add_comm 1] at ih1 ih2 ⊢
        unfold Lib.splitK at ih1 ⊢
        rw [hii, if_neg (by simp)] at ih1
        rw [hi, if_neg (by simp; omega)]
        rw [← ih1] at ih2 ⊢
        have e2 : ((i : Int) + 1).toNat = i + 1 := by omega
        refine ⟨?_, by simpa using ih2⟩
        simp [e2]
theorem Strs.form {w : World} {v : Value} {ks : List (List UInt8)} (h : Strs w v ks) : ∃ a cap, v = .slice a ks.length cap ∧ ks.length ≤ cap ∧ cap ≤ maxLen ∧ (0 < ks.length → ∃ b o, a = some ⟨b, o, none⟩ ∧ ∀ i x, ks[i]? = some x → w.cell? ⟨b, o + i, none⟩ = some (str x)) := by
  obtain ⟨a, cap, rfl, hc, hm, h⟩ := h
  rw [List.length_map] at hc h ⊢
  refine ⟨a, cap, rfl, hc, hm, fun h0 => ?_⟩
  obtain ⟨b, o, rfl, hx⟩ := h h0
  exact ⟨b, o, rfl, fun i x hxx => hx i _ (by rw [List.getElem?_map, hxx]; rfl)⟩
def sortS (ks : List (List UInt8)) : List (List UInt8) := ks.mergeSort fun x y => decide (x ≤ y)
end Go.Q
namespace Go.Proofs.YthamenngccaijaaGreatDoor
open Go Go.RowKit Go.Q
theorem strSplit_any (l : List UInt8) (c : UInt8) (w : World) (hE : Env w) (hl : l.length < 4294967281) :
    Calls Tryz.prog 174 #[str l, str [c]] w fun e w' => e = .returned (.slice (some ⟨w.heap.size, 0, none⟩) (cutAt c l).length (cutAt c l).length) ∧ Strs w' (.slice (some ⟨w.heap.size, 0, none⟩) (cutAt c l).length (cutAt c l).length) (cutAt c l) ∧ Fr (fun _ => False) w w' := by
  obtain ⟨m, hm⟩ := hE.top
  refine (Go.Proofs.Tryz.strings_Split ⟨l.toArray⟩ ⟨[c].toArray⟩ m w (by simpa [ByteArray.size] using hl) hm (by simp [ByteArray.size])).mono ?_
  rintro e w' ⟨rfl, rfl⟩
  obtain ⟨h1, h2⟩ := split_cutAt c l
  have hcb : Lib.countB ⟨l.toArray⟩ ⟨[c].toArray⟩ = Lib.count l [c] := rfl
  have hd := Lib.splitB_data ⟨[c].toArray⟩ 0 (Lib.count l [c]) ⟨l.toArray⟩
  rw [show (ByteArray.mk [c].toArray).data.toList = [c] from rfl, show (ByteArray.mk l.toArray).data.toList = l from rfl, h1] at hd
  rw [hcb, h2]
  have hs : ((Lib.splitB ⟨[c].toArray⟩ 0 (Lib.count l [c]) ⟨l.toArray⟩).map Value.string) = (cutAt c l).map str := by
    rw [← hd, List.map_map]
    refine List.map_congr_left (fun x _ => ?_)
    rfl
  rw [hs]
  have hln : (cutAt c l).length ≤ 4294967290 := by
    have := Lib.countB_le ⟨[c].toArray⟩ (by simp [ByteArray.size]) l.length ⟨l.toArray⟩ (by simp [ByteArray.size])
    rw [hcb] at this
    have hz : (ByteArray.mk l.toArray).size = l.length := by simp [ByteArray.size]
    omega
  refine ⟨rfl, ?_, (Fr.refl w).alloc _⟩
  have B := Vals.of_block (Blk.new w 9 ((cutAt c l).map str).toArray) (by simp; unfold maxLen; omega)
  simpa using B
theorem strJoin_any (ks : List (List UInt8)) (c : UInt8) (v : Value) (w : World) (h : Strs w v ks) (hn : ks.length ≤ 109951162777) (hl : (Lib.join ks [c]).length ≤ 100000000000000) :
    Calls Tryz.prog 161 #[v, str [c]] w fun e w' => e = .returned (str (Lib.join ks [c])) ∧ Fr (fun _ => False) w w' := by
  obtain ⟨a, cap, rfl, hc, hm, hx⟩ := Strs.form h
  rcases Nat.eq_zero_or_pos ks.length with h0 | h0
  · obtain rfl : ks = [] := List.length_eq_zero_iff.1 h0
    refine (Go.Proofs.Tryz.strings_Join_none a cap ⟨[c].toArray⟩ w).mono ?_
    rintro e w' ⟨rfl, rfl⟩
    exact ⟨rfl, Fr.refl _⟩
  · obtain ⟨b, o, rfl, hy⟩ := hx h0
    have hmm : (ks.map (fun k => (⟨k.toArray⟩ : ByteArray))).map (·.data.toList) = ks := by
      rw [List.map_map]
      exact (List.map_congr_left (fun x _ => rfl)).trans (List.map_id ks)
    have H := Go.Proofs.Tryz.strings_Join b o cap (ks.map (fun k => ⟨k.toArray⟩)) ⟨[c].toArray⟩ w (fun j x hj => by
      rw [List.getElem?_map] at hj
      cases hk : ks[j]? with
      | none => rw [hk] at hj; cases hj
      | some y =>
        rw [hk] at hj
        simp only [Option.map_some, Option.some.injEq] at hj
        subst hj
        exact hy j y hk) (World.block_lt_of_cell? w _ (hy 0 _ (List.getElem?_eq_getElem h0))) (by simpa using Nat.le_trans hn (by decide)) (by simpa using hc) (by rw [hmm]; exact Nat.le_trans hl (by decide))
    rw [hmm, List.length_map] at H
    refine H.mono ?_
    rintro e w' ⟨rfl, hb⟩
    exact ⟨rfl, Fr.of_below hb⟩
theorem strSort_any {w : World} {base : Nat} {v : Value} (ks : List (List UInt8)) (hown : w.ownsRow base 9 1 v ks.length (ks.map str)) (hn : ks.length ≤ 109951162777) :
    Calls Tryz.prog 205 #[v] w fun e w' => e = .returned (.tuple #[]) ∧ w'.ownsRow base 9 1 v (sortS ks).length ((sortS ks).map str) ∧ Fr (fun k => v.ownBlock = some k) w w' := by
  have hsl : (sortS ks).length = ks.length := by simp [sortS]
  rcases hown.2 with ⟨rfl, h0⟩ | ⟨g, cap, cur, rfl, hg, hh, hnc, hcm, hcs, htk⟩
  · refine (Go.Proofs.Tryz.slices_Sort_string_none none 0 w).mono ?_
    rintro e w' ⟨rfl, rfl⟩
    obtain rfl : ks = [] := List.length_eq_zero_iff.1 h0
    exact ⟨rfl, by simpa [sortS] using hown, Fr.refl _⟩
  · have hH := Go.holds_of_block (ss := ks) hh (by rw [Nat.mul_one] at htk; exact htk)
    refine (Go.Proofs.Tryz.slices_Sort_string g 0 cap ks w hH (Array.getElem?_eq_some_iff.1 hh).1 (by omega)).mono ?_
    rintro e w' ⟨rfl, n, os, rfl⟩
    refine ⟨rfl, ?_, ?_⟩
    · rw [hsl]
      exact Go.ownsRow_sorted (ts := sortS ks) hsl hg hh hnc hcm hcs
    · have f := Fr.of_grown (Go.grownBy_sorted (w := w) (g := g) (n := n) (os := os) (sortS ks).toArray)
      exact f
theorem strCompact_any {w : World} {base : Nat} {v : Value} (ks : List (List UInt8)) (hown : w.ownsRow base 9 1 v ks.length (ks.map str)) (hn : ks.length ≤ 109951162777) :
    Calls Tryz.prog 206 #[v] w fun e w' => (∃ v', e = .returned v' ∧ w'.ownsRow base 9 1 v' (Lib.compact ks).length ((Lib.compact ks).map str)) ∧ Fr (fun k => v.ownBlock = some k) w w' := by
  rcases hown.2 with ⟨rfl, h0⟩ | ⟨g, cap, cur, rfl, hg, hh, hnc, hcm, hcs, htk⟩
  · refine (Go.Proofs.Tryz.slices_Compact_string_empty none 0 w).mono ?_
    rintro e w' ⟨rfl, rfl⟩
    obtain rfl : ks = [] := List.length_eq_zero_iff.1 h0
    exact ⟨⟨_, rfl, hown⟩, Fr.refl _⟩
  · rw [Nat.mul_one] at htk hcs
    have hH := Go.holds_of_block (ss := ks) hh htk
    refine (Go.Proofs.Tryz.slices_Compact_string g 0 cap ks w hH (by omega) hnc).mono ?_
    rintro e w' ⟨rfl, q, rfl⟩
    have hcl := Lib.compact_length_le ks
    have hl2 : (Lib.compact ks ++ List.replicate (ks.length - (Lib.compact ks).length) ([] : List UInt8)).length = ks.length := by
      rw [List.length_append, List.length_replicate]; omega
    have hb := Go.heap_sorted (n := q) (os := #[]) (Lib.compact ks ++ List.replicate (ks.length - (Lib.compact ks).length) ([] : List UInt8)).toArray hh
    have f := Fr.of_grown (Go.grownBy_sorted (w := w) (g := g) (n := q) (os := #[]) (Lib.compact ks ++ List.replicate (ks.length - (Lib.compact ks).length) ([] : List UInt8)).toArray)
    rw [Sort.grow_empty] at hb f
    have ht := Go.take_putCells cur (Lib.compact ks ++ List.replicate (ks.length - (Lib.compact ks).length) ([] : List UInt8)) (by omega)
    refine ⟨⟨_, rfl, by simp, .inr ⟨g, cap, _, rfl, hg, hb, by omega, hcm, by simp [Sort.putCells, hcs], ?_⟩⟩, f⟩
    rw [Nat.mul_one]
    have h3 := congrArg (List.take (Lib.compact ks).length) ht
    rw [List.take_take, hl2, Nat.min_eq_left hcl, ← List.map_take, List.take_left] at h3
    exact h3
end Go.Proofs.YthamenngccaijaaGreatDoor

namespace Go.Q
open Go Go.RowKit
def digB (x : UInt8) : Bool := decide (48 ≤ x.toNat ∧ x.toNat ≤ 57)
def numVal (l : List UInt8) : Nat := l.foldl (fun n x => 10 * n + (x.toNat - 48)) 0
def numTextS (l : List UInt8) : Option Nat :=
  if l.length = 0 ∨ 10 < l.length ∨ (l.head? = some 48 ∧ 1 < l.length) then none else if l.all digB = true then some (numVal l) else none
def numOut : Option Nat → Value
  | none => .tuple #[.int .i64 0, .bool false]
  | some n => .tuple #[.int .i64 n, .bool true]
end Go.Q
namespace Go.Proofs.YthamenngccaijaaGreatDoor
open Go Go.RowKit Go.Q
end Go.Proofs.YthamenngccaijaaGreatDoor

namespace Go.Q
open Go Go.RowKit
def numsOf : List (List UInt8) → Option (List Int)
  | [] => some []
  | p :: t => match numTextS p with
    | none => none
    | some n => (numsOf t).map ((n : Int) :: ·)
def fromTextS (l : List UInt8) : Except Int (List Int) :=
  match numsOf (cutAt 46 l) with
  | none => .error 6
  | some o => if oidOk o = true then .ok o else .error 1
theorem cutAt_len (c : UInt8) : ∀ l : List UInt8, (cutAt c l).length ≤ l.length + 1 ∧ ∀ p ∈ cutAt c l, p.length ≤ l.length
  | [] => by simp [cutAt]
  | x :: t => by
    obtain ⟨h1, h2⟩ := cutAt_len c t
    unfold cutAt
    split
    · refine ⟨by simp; omega, fun p hp => ?_⟩
      rcases List.mem_cons.1 hp with rfl | h
      · simp
      · have := h2 p h; simp; omega
    · split
      · refine ⟨by simp, fun p hp => ?_⟩
        rw [List.mem_singleton.1 hp]
        simp
      · rename_i h r he
        rw [he] at h1 h2
        refine ⟨by simp at h1 ⊢; omega, fun p hp => ?_⟩
        rcases List.mem_cons.1 hp with rfl | h
        · have := h2 h (by simp); simp; omega
        · have := h2 p (by simp [h]); simp; omega
end Go.Q
namespace Go.Proofs.YthamenngccaijaaGreatDoor
open Go Go.RowKit Go.Q
def fromTextOut (w w' : World) (l : List UInt8) (e : Ending) : Prop :=
  match fromTextS l with
  | .error x => e = .returned (.tuple #[.slice none 0 0, .int .i64 x]) ∧ x ≠ 0
  | .ok o => ∃ u, e = .returned (.tuple #[u, .int .i64 0]) ∧ w'.ownsRow w.heap.size 3 1 u o.length (intCells o)
end Go.Proofs.YthamenngccaijaaGreatDoor

namespace Go.Q
open Go Go.RowKit
def blankB (n : Int) : Bool := decide (n = 32 ∨ (9 ≤ n ∧ n ≤ 13))
def smallS (n : Int) : Int := if 65 ≤ n ∧ n ≤ 90 then n + 32 else n
def foldStep (s : List Int × Bool) (n : Int) : List Int × Bool :=
  if blankB n = true then (s.1, decide (0 < s.1.length)) else ((if s.2 = true then s.1 ++ [32] else s.1) ++ [smallS n], false)
def foldS (l : List Int) : List Int := (l.foldl foldStep ([], false)).1
def FoldAt (w : World) (g d base : Nat) (s : List Int × Bool) : Prop :=
  ∃ v, Blk w g 105 #[v] ∧ Blk w d 4 #[.bool s.2] ∧ w.ownsRow base 3 1 v s.1.length (intCells s.1) ∧ (∀ k, v.ownBlock = some k → k ≠ g ∧ k ≠ d)
end Go.Q
namespace Go.Proofs.YthamenngccaijaaGreatDoor
open Go Go.RowKit Go.Q
theorem blank_any (n : Int) (w : World) :
    Calls Tryz.prog 313 #[.int .i64 n] w fun e w' => e = .returned (.bool (blankB n)) ∧ w = w' := by
  have hc : n = 32 ∨ (n ≠ 32 ∧ n < 9) ∨ (9 ≤ n ∧ n ≤ 13) ∨ (n ≠ 32 ∧ 13 < n) := by omega
  rcases hc with rfl | ⟨h1, h2⟩ | ⟨h1, h2⟩ | ⟨h1, h2⟩
  · go_enter Tryz.func313, Tryz.ntmps313
    go_wp2_with fail
    go_ret
    exact ⟨rfl, rfl⟩
  · have hb : blankB n = false := decide_eq_false (by omega)
    have HB := Lib.hid hb
    have q1 : (n == 32) = false := beq_eq_false_iff_ne.2 h1
    have q2 : ¬ (9 : Int) ≤ n := by omega
    clear hb
    go_enter Tryz.func313, Tryz.ntmps313
    go_wp2_with fail
    go_ret
    exact ⟨by rw [HB.out]; rfl, rfl⟩
  · have hb : blankB n = true := decide_eq_true (by omega)
    have HB := Lib.hid hb
    have q1 : (n == 32) = false := beq_eq_false_iff_ne.2 (by omega)
    clear hb
    go_enter Tryz.func313, Tryz.ntmps313
    go_wp2_with fail
    go_ret
    exact ⟨by rw [HB.out]; rfl, rfl⟩
  · have hb : blankB n = false := decide_eq_false (by omega)
    have HB := Lib.hid hb
    have q1 : (n == 32) = false := beq_eq_false_iff_ne.2 h1
    have q2 : (9 : Int) ≤ n := by omega
    have q3 : ¬ n ≤ (13 : Int) := by omega
    clear hb
    go_enter Tryz.func313, Tryz.ntmps313
    go_wp2_with fail
    go_ret
    exact ⟨by rw [HB.out]; rfl, rfl⟩
theorem small_any (n : Int) (w : World) :
    Calls Tryz.prog 228 #[.int .i64 n] w fun e w' => e = .returned (.int .i64 (smallS n)) ∧ w = w' := by
  by_cases h1 : (65 : Int) ≤ n
  · by_cases h2 : n ≤ (90 : Int)
    · have hb : smallS n = n + 32 := if_pos ⟨h1, h2⟩
      have HB := Lib.hid hb
      clear hb
      go_enter Tryz.func228, Tryz.ntmps228
      go_wp2_with fail
      go_ret
      exact ⟨by rw [HB.out]; rfl, rfl⟩
    · have hb : smallS n = n := if_neg (by omega)
      have HB := Lib.hid hb
      clear hb
      go_enter Tryz.func228, Tryz.ntmps228
      go_wp2_with fail
      go_ret
      exact ⟨by rw [HB.out]; rfl, rfl⟩
  · have hb : smallS n = n := if_neg (by omega)
    have HB := Lib.hid hb
    clear hb
    go_enter Tryz.func228, Tryz.ntmps228
    go_wp2_with fail
    go_ret
    exact ⟨by rw [HB.out]; rfl, rfl⟩
set_option maxRecDepth 20000 in
set_option maxHeartbeats 1000000 in
theorem foldPut_any {w : World} {base : Nat} (n : Int) (g d : Nat) (s : List Int × Bool) (hgd : g ≠ d) (h : FoldAt w g d base s) (hb : base ≤ w.heap.size) (hm : s.1.length ≤ 10995116277) :
    Calls Tryz.prog 312 #[.int .i64 n, pt g, pt d] w fun e w' => e = .returned (.tuple #[]) ∧ FoldAt w' g d base (foldStep s n) ∧ Fr (fun k => k = g ∨ k = d ∨ base ≤ k) w w' := by
  obtain ⟨xs, due⟩ := s
  obtain ⟨v, BG, BD, hown, ho⟩ := h
  simp only at BG BD hown hm
  obtain ⟨a, m, c, rfl, rfl⟩ := own_shape hown
  have HOWN := Lib.hid hown
  have hbase := (Vals.of_own hown).2
  have HBA := Lib.hid hbase
  have g0 := BG.cell 0
  have g1 := BG.frozen 0
  have d0 := BD.cell 0
  have d1 := BD.frozen 0
  simp at g0 d0
  cases hbl : blankB n with
  | true =>
    have HB := Lib.hid (blank_any n w)
    rw [hbl] at HB
    have hst : foldStep (xs, due) n = (xs, decide (0 < xs.length)) := by unfold foldStep; rw [hbl]; rfl
    have HST := Lib.hid hst
    clear hst hown hbase hbl
    have hd : ∀ z : Bool, decide (0 < xs.length) = z → FoldAt (w.setCell ⟨d, 0, none⟩ (.bool z)) g d base (foldStep (xs, due) n) ∧ Fr (fun k => k = g ∨ k = d ∨ base ≤ k) w (w.setCell ⟨d, 0, none⟩ (.bool z)) := by
      intro z hz
      have F : Fr (fun k => k = d) w (w.setCell ⟨d, 0, none⟩ (.bool z)) := Fr.setCell (S := fun k => k = d) (p := ⟨d, 0, none⟩) (Fr.refl w) (fun _ => rfl) _
      have BD2 := BD.set 0 (.bool z)
      simp at BD2
      rw [HST.out, hz]
      exact ⟨⟨_, BG.fr F hgd, BD2, ownsRow_fr HOWN.out F (fun k hk e => (ho k hk).2 e), ho⟩, F.mono (fun _ _ h => .inr (.inl h))⟩
    have HD := Lib.hid hd
    clear hd
    go_enter Tryz.func312, Tryz.ntmps312
    go_wp2_with fail
    refine HB.out.mono ?_
    rintro e w' ⟨rfl, rfl⟩
    go_wp2_with fail
    refine bodyPost_ret (results_none rfl _ _ _) rfl ?_
    exact ⟨rfl, HD.out _ rfl⟩
  | false =>
    have HB := Lib.hid (blank_any n w)
    rw [hbl] at HB
    have last : ∀ (w3 : World) (v3 : Value) (m3 : Nat) (ys : List Int), Blk w3 g 105 #[v3] → Blk w3 d 4 #[.bool false] → w3.ownsRow base 3 1 v3 m3 (intCells ys) → (∀ k, v3.ownBlock = some k → k ≠ g ∧ k ≠ d) → base ≤ w3.heap.size → m3 ≤ 10995116278 → Fr (fun k => k = g ∨ k = d ∨ base ≤ k) w w3 → foldStep (xs, due) n = (ys ++ [smallS n], false) →
        ∃ a c w', (Builtin.append_ #[105, 105] 105 #[v3, .slice (some ⟨w3.heap.size, 0, none⟩) 1 1]).run Tryz.prog ((w3.alloc (.cells #[.int .i64 (smallS n)] 3)).drew) = .ok (.slice a (m3 + 1) c) w' ∧ Blk w' g 105 #[v3] ∧ FoldAt (w'.setCell ⟨g, 0, none⟩ (.slice a (m3 + 1) c)) g d base (foldStep (xs, due) n) ∧ Fr (fun k => k = g ∨ k = d ∨ base ≤ k) w (w'.setCell ⟨g, 0, none⟩ (.slice a (m3 + 1) c)) := by
      intro w3 v3 m3 ys BG3 BD3 own3 ho3 hb3 hm3 F3 hst
      have F4 : Fr (fun _ => False) w3 ((w3.alloc (.cells #[.int .i64 (smallS n)] 3)).drew) := ((Fr.refl w3).alloc _).drew
      obtain ⟨a, c, w', hrun, own', F5, hk5⟩ := add_int own3 hb3 (by omega) (smallS n) w3.heap.size F4 (Blk.new w3 3 #[.int .i64 (smallS n)]).drew
      have BG5 := BG3.fr F5 (fun e => (ho3 g e).1 rfl)
      have BD5 := BD3.fr F5 (fun e => (ho3 d e).2 rfl)
      have lg := BG3.lt
      have ld := BD3.lt
      have hne : ∀ k, (Value.slice a (m3 + 1) c).ownBlock = some k → k ≠ g ∧ k ≠ d := fun k hk => by
        rcases hk5 k hk with h | h
        · exact ho3 k h
        · exact ⟨by omega, by omega⟩
      have F6 : Fr (fun k => k = g) w' (w'.setCell ⟨g, 0, none⟩ (.slice a (m3 + 1) c)) := Fr.setCell (S := fun k => k = g) (p := ⟨g, 0, none⟩) (Fr.refl w') (fun _ => rfl) _
      have BG6 := BG5.set 0 (.slice a (m3 + 1) c)
      simp at BG6
      have hlen : m3 + 1 = (ys ++ [smallS n]).length := by
        have := own3.1
        rw [intCells_len, Nat.mul_one] at this
        simp [this]
      refine ⟨a, c, w', hrun, BG5, ?_, (F3.trans (F5.mono (fun k hk e => ?_))).trans (F6.mono (fun _ _ h => .inl h))⟩
      · rw [hst]
        refine ⟨_, BG6, BD5.fr F6 (fun e => hgd e.symm), ?_, hne⟩
        simp only
        rw [← hlen]
        exact ownsRow_fr own' F6 (fun k hk e => (hne k hk).1 e)
      · exact .inr (.inr ((Vals.of_own own3).2 k e).1)
    have HL := Lib.hid last
    clear last
    cases due with
    | false =>
      have hst : foldStep (xs, false) n = (xs ++ [smallS n], false) := by unfold foldStep; rw [hbl]; rfl
      obtain ⟨a7, c7, w7, hrun, BG7, hfin, hF7⟩ := HL.out w _ xs.length xs BG BD HOWN.out ho hb (by omega) (Fr.refl w) hst
      have HRUN := Lib.hid hrun
      have HFIN := Lib.hid hfin
      have HF7 := Lib.hid hF7
      have g7 := BG7.cell 0
      have f7 := BG7.frozen 0
      have hal := alloc_old
      have lg := BG.lt
      simp at g7
      clear hst hrun hfin hF7 hown hbase hbl
      go_enter Tryz.func312, Tryz.ntmps312
      go_wp2_with fail
      refine HB.out.mono ?_
      rintro e w' ⟨rfl, rfl⟩
      go_wp2_with fail
      go_region_law (first | (refine step_append_run (by rfl) (.tmp 13) (.tmp 16) 105 (by rfl) _ w7 (by exact HRUN.out) ?_) | (go_simp; go_at_call 228; refine (small_any n _).mono ?_; rintro e w' ⟨rfl, rfl⟩))
      all_goals
        go_wp2_with fail
        go_end0
        exact ⟨rfl, HFIN.out, HF7.out⟩
    | true =>
      have hst : foldStep (xs, true) n = ((xs ++ [32]) ++ [smallS n], false) := by unfold foldStep; rw [hbl]; rfl
      have F1 : Fr (fun _ => False) w (w.alloc (.cells #[.int .i64 32] 3)) := (Fr.refl w).alloc _
      obtain ⟨a1, c1, w1, hrun1, own1, F2, hk1⟩ := add_int HOWN.out hb (by omega) 32 w.heap.size F1 (Blk.new w 3 #[.int .i64 32])
      have lg := BG.lt
      have ld := BD.lt
      have BG1 := BG.fr F2 (fun e => (ho g e).1 rfl)
      have BD1 := BD.fr F2 (fun e => (ho d e).2 rfl)
      have hne : ∀ k, (Value.slice a1 (xs.length + 1) c1).ownBlock = some k → k ≠ g ∧ k ≠ d := fun k hk => by
        rcases hk1 k hk with h | h
        · exact ho k h
        · exact ⟨by omega, by omega⟩
      have F3 : Fr (fun k => k = g ∨ k = d) w1 ((w1.setCell ⟨g, 0, none⟩ (.slice a1 (xs.length + 1) c1)).setCell ⟨d, 0, none⟩ (.bool false)) := ((Fr.refl w1).setCell (p := ⟨g, 0, none⟩) (fun _ => .inl rfl) _).setCell (p := ⟨d, 0, none⟩) (fun _ => .inr rfl) _
      have BG3 := (BG1.set 0 (.slice a1 (xs.length + 1) c1)).set_other (a := ⟨d, 0, none⟩) hgd (.bool false)
      have BD3 := (BD1.set_other (a := ⟨g, 0, none⟩) (fun e => hgd e.symm) (.slice a1 (xs.length + 1) c1)).set 0 (.bool false)
      simp at BG3 BD3
      have own3 := ownsRow_fr own1 F3 (fun k hk e => by have := hne k hk; omega)
      have G3 : Fr (fun k => k = g ∨ k = d ∨ base ≤ k) w ((w1.setCell ⟨g, 0, none⟩ (.slice a1 (xs.length + 1) c1)).setCell ⟨d, 0, none⟩ (.bool false)) := (F2.mono (fun k hk e => .inr (.inr (HBA.out k e).1))).trans (F3.mono (fun k _ h => h.elim .inl (fun h => .inr (.inl h))))
      obtain ⟨a7, c7, w7, hrun, BG7, hfin, hF7⟩ := HL.out _ _ (xs.length + 1) (xs ++ [32]) BG3 BD3 own3 hne (Nat.le_trans hb G3.size) (by omega) G3 hst
      have HRUN1 := Lib.hid hrun1
      have HRUN := Lib.hid hrun
      have HFIN := Lib.hid hfin
      have HF7 := Lib.hid hF7
      have HBG3 := Lib.hid BG3
      have p0 := BG1.cell 0
      have p1 := BG1.frozen 0
      have r0 := BD1.cell 0
      have r1 := BD1.frozen 0
      have g7 := BG7.cell 0
      have f7 := BG7.frozen 0
      simp at g7 p0 r0
      clear hst hrun hrun1 hfin hF7 hown hbase hbl own1 own3 BG3 BD3 F3 G3 F2 F1 BG1 BD1 hk1 hne
      go_enter Tryz.func312, Tryz.ntmps312
      go_wp2_with fail
      refine HB.out.mono ?_
      rintro e w' ⟨rfl, rfl⟩
      have hgd' : d ≠ g := fun e => hgd e.symm
      go_upto_region 5 with (at_builtin; refine wpList_append_run (by rfl) (.tmp 10) (.tmp 11) 105 (by rfl) _ w1 (by exact HRUN1.out) ?_)
      generalize ((w1.setCell ⟨g, 0, none⟩ (.slice a1 (xs.length + 1) c1)).setCell ⟨d, 0, none⟩ (.bool false)) = w3 at *
      have g3 := HBG3.out.cell 0
      have hal := alloc_old
      have lg3 := HBG3.out.lt
      simp at g3
      go_region_law (first | (refine step_append_run (by rfl) (.tmp 13) (.tmp 16) 105 (by rfl) _ w7 (by exact HRUN.out) ?_) | (go_simp; go_at_call 228; refine (small_any n _).mono ?_; rintro e w' ⟨rfl, rfl⟩))
      all_goals
        go_wp2_with fail
        go_end0
        exact ⟨rfl, HFIN.out, HF7.out⟩
end Go.Proofs.YthamenngccaijaaGreatDoor

namespace Go.Q
open Go Go.RowKit
def foldAcc (l : List Int) : List Int × Bool := l.foldl foldStep ([], false)
theorem foldAcc_take {l : List Int} {j : Nat} {n : Int} (h : l[j]? = some n) : foldAcc (l.take (j + 1)) = foldStep (foldAcc (l.take j)) n := by
  unfold foldAcc
  rw [List.take_add_one, h]
  simp [List.foldl_append]
theorem foldStep_len (s : List Int × Bool) (n : Int) : (foldStep s n).1.length ≤ s.1.length + 2 := by
  unfold foldStep
  split
  · simp
  · split <;> simp
theorem foldAcc_len (l : List Int) : (foldAcc l).1.length ≤ 2 * l.length := by
  have : ∀ (l : List Int) (s : List Int × Bool), (l.foldl foldStep s).1.length ≤ s.1.length + 2 * l.length := by
    intro l
    induction l with
    | nil => intro s; simp
    | cons n l ih =>
      intro s
      have h1 := ih (foldStep s n)
      have h2 := foldStep_len s n
      simp only [List.foldl_cons, List.length_cons]
      omega
  have h := this l ([], false)
  simpa [foldAcc] using h
end Go.Q
namespace Go.Proofs.YthamenngccaijaaGreatDoor
open Go Go.RowKit Go.Q
set_option maxRecDepth 20000 in
set_option maxHeartbeats 1000000 in
theorem foldSigns_any (v : Value) (l : List Int) (w : World) (h : Ints w v l) (hl : l.length ≤ 1099511627) :
    Calls Tryz.prog 288 #[v] w fun e w' => (∃ u, e = .returned u ∧ w'.ownsRow w.heap.size 3 1 u (foldS l).length (intCells (foldS l))) ∧ Fr (fun _ => False) w w' := by
  have H := Lib.hid h
  obtain ⟨a, cap, rfl, -⟩ := Ints.form h
  obtain ⟨z, hz⟩ : ∃ z, z = w.heap.size := ⟨_, rfl⟩
  have HZ := Lib.hid hz
  have F0 : Fr (fun _ => False) w ((w.alloc (.cells #[.slice none 0 0] 105)).alloc (.cells #[.bool false] 4)) := ((Fr.refl w).alloc _).alloc _
  have BG0 := (Blk.new w 105 #[.slice none 0 0]).alloc (.cells #[.bool false] 4)
  have BD0 := Blk.new (w.alloc (.cells #[.slice none 0 0] 105)) 4 #[.bool false]
  have hs0 : ((w.alloc (.cells #[.slice none 0 0] 105)).alloc (.cells #[.bool false] 4)).heap.size = z + 2 := by rw [World.size_alloc, World.size_alloc, hz]
  rw [World.size_alloc, ← hz] at BD0
  rw [← hz] at BG0
  have A0 : FoldAt ((w.alloc (.cells #[.slice none 0 0] 105)).alloc (.cells #[.bool false] 4)) z (z + 1) (z + 2) ([], false) := ⟨_, BG0, BD0, ⟨rfl, .inl ⟨rfl, rfl⟩⟩, fun k hk => by simp [Value.ownBlock] at hk⟩
  have HA0 := Lib.hid A0
  have HF0 := Lib.hid F0
  have HS0 := Lib.hid hs0
  clear h hz F0 BG0 BD0 A0 hs0
  go_enter Tryz.func288, Tryz.ntmps288
  go_upto_region 4 with fail
  rw [← HZ.out]
  generalize ((w.alloc (.cells #[.slice none 0 0] 105)).alloc (.cells #[.bool false] 4)) = w1 at *
  go_wp2_with fail
  go_loopg [11] l.length (fun g i wr => ∃ j : Nat, g = l.length - j ∧ j ≤ l.length ∧ i = .int .i64 j ∧ FoldAt wr z (z + 1) (z + 2) (foldAcc (l.take j)) ∧ Fr (fun _ => False) w wr ∧ z + 2 ≤ wr.heap.size)
  case atStart => exact ⟨0, rfl, Nat.zero_le _, rfl, HA0.out, HF0.out, by have := HS0.out; omega⟩
  case round =>
    obtain ⟨j, hg, hj, rfl, hA, F, hsz⟩ := hrel
    have HG := Lib.hid hg
    have HA := Lib.hid hA
    have HF := Lib.hid F
    clear hg hA F
    by_cases hjl : j < l.length
    · obtain ⟨a0, cap0, he, _, _, hx⟩ := Ints.form (H.out.old HF.out)
      simp only [Value.slice.injEq, true_and] at he
      obtain ⟨rfl, rfl⟩ := he
      obtain ⟨b, off, rfl, hy⟩ := hx (by omega)
      obtain ⟨n, hn⟩ : ∃ n, l[j]? = some n := ⟨_, List.getElem?_eq_getElem hjl⟩
      have e1 := hy j n hn
      have hft := foldAcc_take hn
      have HFT := Lib.hid hft
      have r1 : (0 : Int) ≤ (j : Int) := by omega
      have r2 : (j : Int) < (l.length : Int) := by omega
      have hlen := foldAcc_len (l.take j)
      rw [List.length_take] at hlen
      have HP := Lib.hid (foldPut_any n z (z + 1) _ (by omega) HA.out hsz (by omega))
      clear hx hy hn hft hlen
      go_wp2_with fail
      refine HP.out.mono ?_
      rintro e w2 ⟨rfl, hA2, F2⟩
      rw [← HFT.out] at hA2
      have HA2 := Lib.hid hA2
      have HF2 := Lib.hid (HF.out.trans' F2 (fun i hi e => by have := HZ.out; omega))
      have hs2 := F2.size
      clear hA2 F2
      go_wp2_with fail
      go_roundg (l.length - (j + 1))
      case measure => rw [HG.out]; omega
      case rel => exact ⟨j + 1, rfl, by omega, by go_num, HA2.out, HF2.out, by omega⟩
    · have hall : l.take j = l := List.take_of_length_le (by omega)
      obtain ⟨u, BG, _, hown, _⟩ := HA.out
      rw [hall] at hown
      have hown := own_le hown (base' := w.heap.size) (by have := HZ.out; omega)
      have HO := Lib.hid hown
      have g0 := BG.cell 0
      simp at g0
      clear hown hall
      go_wp2_with fail
      go_ret
      exact ⟨⟨_, rfl, HO.out⟩, HF.out⟩
end Go.Proofs.YthamenngccaijaaGreatDoor

namespace Go.Q
open Go Go.RowKit
theorem may12 {k n : Int} (h : mayS k n = true) : mayS 12 n = true := by
  unfold mayS at h ⊢
  rw [if_pos rfl]
  have hs : surr n = decide (55296 ≤ n ∧ n ≤ 57343) := rfl
  split at h
  · exact h
  split at h
  · rw [Bool.and_eq_true] at h
    have h1 := of_decide_eq_true h.1
    rw [hs, decide_eq_true (by omega), decide_eq_false (by omega)]
    rfl
  split at h
  · have h1 := of_decide_eq_true h
    rw [hs, decide_eq_true (by omega), decide_eq_false (by omega)]
    rfl
  split at h
  · have h1 := of_decide_eq_true h
    rw [hs, decide_eq_true (by omega), decide_eq_false (by omega)]
    rfl
  split at h
  · have h1 := of_decide_eq_true h
    rw [hs, decide_eq_true (by omega), decide_eq_false (by omega)]
    rfl
  split at h
  · rw [Bool.and_eq_true] at h
    have h1 := of_decide_eq_true h.1
    rw [h.2, decide_eq_true (by omega)]
    rfl
  · cases h
theorem right_all {k : Int} {b : List UInt8} (h : rightS k b = true) : ∀ n ∈ signsS k b, mayS k n = true := by
  unfold rightS at h
  rw [Bool.and_eq_true] at h
  exact List.all_eq_true.1 h.2
def utf8S (k : Int) (b : List UInt8) : List UInt8 := ofS 12 (signsS k b)
def foldKeyS (k : Int) (b : List UInt8) : List UInt8 := ofS 12 (foldS (signsS k b))
theorem small_may {n : Int} (h : mayS 12 n = true) : mayS 12 (smallS n) = true := by
  unfold smallS
  split
  · unfold mayS surr
    rw [if_pos rfl, decide_eq_true (by omega), decide_eq_false (by omega)]
    rfl
  · exact h
theorem fold_may {l : List Int} (h : ∀ n ∈ l, mayS 12 n = true) : ∀ n ∈ foldS l, mayS 12 n = true := by
  have : ∀ (l : List Int) (s : List Int × Bool), (∀ n ∈ l, mayS 12 n = true) → (∀ n ∈ s.1, mayS 12 n = true) → ∀ n ∈ (l.foldl foldStep s).1, mayS 12 n = true := by
    intro l
    induction l with
    | nil => intro s _ h; exact h
    | cons m l ih =>
      intro s h1 h2
      refine ih (foldStep s m) (fun n hn => h1 n (List.mem_cons_of_mem _ hn)) (fun n hn => ?_)
      unfold foldStep at hn
      split at hn
      · exact h2 n hn
      · have hm := small_may (h1 m List.mem_cons_self)
        simp only [List.mem_append, List.mem_singleton] at hn
        rcases hn with hn | hn
        · split at hn
          · rcases List.mem_append.1 hn with h | h
            · exact h2 n h
            · rw [List.mem_singleton.1 h]; rfl
          · exact h2 n hn
        · rw [hn]; exact hm
  exact this l ([], false) h (by simp)
end Go.Q
namespace Go.Proofs.YthamenngccaijaaGreatDoor
open Go Go.RowKit Go.Q
set_option maxRecDepth 20000 in
set_option maxHeartbeats 1000000 in
theorem foldKey_any (k : Int) (v : Value) (b : List UInt8) (w : World) (hv : Bytes w v b) (hT : Tabs w) (hok : rightS k b = true) (hbl : b.length ≤ 16777216) :
    Calls Tryz.prog 252 #[.agg #[.int .i64 k, v]] w fun e w' => e = .returned (.tuple #[str (foldKeyS k b), .int .i64 0]) ∧ Fr (fun _ => False) w w' := by
  obtain ⟨a, cap, rfl, -⟩ := hv.form
  obtain ⟨z, hz⟩ : ∃ z, z = w.heap.size := ⟨_, rfl⟩
  have F0 : Fr (fun _ => False) w (w.alloc (.cells #[.int .i64 k, .slice a b.length cap] 172)) := (Fr.refl w).alloc _
  have B0 := Blk.new w 172 #[.int .i64 k, .slice a b.length cap]
  rw [← hz] at B0
  have HS := Lib.hid (signsText_any k _ b _ (hv.old F0) (hT.old F0) (by omega) hok)
  have hm := Lib.hid (fold_may (fun n hn => may12 (right_all hok n hn)))
  have hl := signsS_len k b
  have HZ := Lib.hid hz
  have HF0 := Lib.hid F0
  have hu : foldKeyS k b = ofS 12 (foldS (signsS k b)) := rfl
  have HU := Lib.hid hu
  clear F0 hz hok hv hT hu
  generalize signsS k b = sg at *
  have hfl : (foldS sg).length ≤ 2 * sg.length := foldAcc_len sg
  go_enter Tryz.func252, Tryz.ntmps252
  go_upto_region 1 with fail
  rw [← HZ.out]
  generalize (w.alloc (.cells #[.int .i64 k, .slice a b.length cap] 172)) = w1 at *
  have t0 := B0.cell 0
  have t1 := B0.cell 1
  simp at t0 t1
  go_wp2_with fail
  refine HS.out.mono ?_
  rintro e w2 ⟨⟨u2, rfl, ho2⟩, F2⟩
  have hi2 := (Vals.of_own ho2).1
  obtain ⟨a2, m2, c2, rfl, rfl⟩ := own_shape ho2
  have HG := Lib.hid (foldSigns_any _ sg w2 hi2 (by omega))
  have HF2 := Lib.hid (HF0.out.trans F2)
  clear HS HF0 F2 ho2 t0 t1 B0 hi2
  go_wp2_with fail
  refine HG.out.mono ?_
  rintro e w4 ⟨⟨u4, rfl, ho4⟩, F4⟩
  have hi4 := (Vals.of_own ho4).1
  obtain ⟨a4, m4, c4, rfl, rfl⟩ := own_shape ho4
  have HO := Lib.hid (ofText_any 12 _ (foldS sg) w4 hi4 rfl hm.out (by omega))
  have HF4 := Lib.hid (HF2.out.trans F4)
  clear HG HF2 F4 ho4 hi4
  generalize foldS sg = fs at *
  go_wp2_with fail
  refine HO.out.mono ?_
  rintro e w3 ⟨⟨u3, rfl, ho3⟩, F3⟩
  have hb3 := (Vals.of_own ho3).1
  obtain ⟨a3, m3, c3, rfl, rfl⟩ := own_shape ho3
  have hs3 : ∀ o, (Go.convert 23 9 (.slice a3 (ofS 12 fs).length c3)).run Tryz.prog (w3.alloc o) = .ok (str (ofS 12 fs)) (w3.alloc o) := fun o => str_of (hb3.old ((Fr.refl w3).alloc o))
  have HF3 := Lib.hid ((HF4.out.trans F3).alloc (.cells #[.int .i64 12, .slice a3 (ofS 12 fs).length c3] 172))
  clear HO HF4 F3 ho3 hb3
  go_wp2_with fail
  refine bodyPost_ret (v := .tuple #[str (ofS 12 fs), .int .i64 0]) (by simp [results, Tryz.results252, go_sem]) rfl ⟨by rw [HU.out], HF3.out⟩
end Go.Proofs.YthamenngccaijaaGreatDoor

namespace Go.Q
open Go Go.RowKit
def hexN (n : Int) : Int := if n < 10 then 48 + n else 87 + n
def hex1 (x : UInt8) : List UInt8 := [UInt8.ofNat (hexN ((x.toNat : Int) / 16)).toNat, UInt8.ofNat (hexN ((x.toNat % 16 : Nat) : Int)).toNat]
def hexS (l : List UInt8) : List UInt8 := l.flatMap hex1
theorem hexS_take {l : List UInt8} {j : Nat} {x : UInt8} (h : l[j]? = some x) : hexS (l.take (j + 1)) = hexS (l.take j) ++ hex1 x := by
  unfold hexS
  rw [List.take_add_one, h]
  simp
theorem hexS_len (l : List UInt8) : (hexS l).length = 2 * l.length := by
  induction l with
  | nil => rfl
  | cons x l ih =>
    have : hexS (x :: l) = hex1 x ++ hexS l := rfl
    rw [this, List.length_append, ih]
    simp only [hex1, List.length_cons, List.length_nil]
    omega
theorem hexN_lt (n : Int) (h0 : 0 ≤ n) (h1 : n < 16) : 48 ≤ hexN n ∧ hexN n < 103 := by unfold hexN; split <;> omega
end Go.Q
namespace Go.Proofs.YthamenngccaijaaGreatDoor
open Go Go.RowKit Go.Q
theorem digit_any (n : Int) (h0 : 0 ≤ n) (h1 : n < 16) (w : World) :
    Calls Tryz.prog 177 #[.int .u8 n] w fun e w' => e = .returned (.int .u8 (hexN n)) ∧ w = w' := by
  by_cases hc : n < 10
  · have hb : hexN n = 48 + n := if_pos hc
    have HB := Lib.hid hb
    have hw : IntKind.u8.wrap (48 + n) = 48 + n := by simp [IntKind.wrap, IntKind.signed, IntKind.bits]; omega
    clear hb
    go_enter Tryz.func177, Tryz.ntmps177
    go_wp2_with fail
    go_ret
    refine ⟨?_, rfl⟩
    rw [HB.out]
    first | rfl | rw [hw]
  · have hb : hexN n = 87 + n := if_neg hc
    have HB := Lib.hid hb
    have hw : IntKind.u8.wrap (97 + n) = 97 + n := by simp [IntKind.wrap, IntKind.signed, IntKind.bits]; omega
    have hw2 : IntKind.u8.wrap (97 + n - 10) = 87 + n := by simp [IntKind.wrap, IntKind.signed, IntKind.bits]; omega
    clear hb
    go_enter Tryz.func177, Tryz.ntmps177
    go_wp2_with fail
    go_ret
    refine ⟨?_, rfl⟩
    rw [HB.out]
    first | rfl | (rw [hw, hw2])
set_option maxRecDepth 20000 in
set_option maxHeartbeats 1000000 in
theorem hex_any (v : Value) (l : List UInt8) (w : World) (h : Bytes w v l) (hl : l.length ≤ 109951162) :
    Calls Tryz.prog 137 #[v] w fun e w' => e = .returned (str (hexS l)) ∧ Fr (fun _ => False) w w' := by
  have H := Lib.hid h
  obtain ⟨a, cap, rfl, -⟩ := h.form
  obtain ⟨i0, hi0, hz0, hz1, hz2⟩ := info_parts info5
  have hmk := run_make (P := Tryz.prog) w 23 5 i0 _ Tryz.underlying23 hi0 hz0 .i64 .i64 0 (2 * (l.length : Int)) (by omega) (by omega) (by rw [hz2]; omega) (by omega)
  have hm2 : (2 * (l.length : Int)).toNat = 2 * l.length := by omega
  rw [hm2, hz1, Nat.mul_one] at hmk
  have hms : (madeCells (Value.int .u8 0).cells (2 * l.length)).size = 2 * l.length := by simp [madeCells]
  have B0 := Blk.new w 5 (madeCells (Value.int .u8 0).cells (2 * l.length))
  have own0 := own_block B0 0 (Nat.zero_le _) (by rw [hms]; unfold maxLen; omega) w.heap.size (Nat.le_refl _)
  rw [hms, List.take_zero] at own0
  have F0 : Fr (fun _ => False) w (w.alloc (.cells (madeCells (Value.int .u8 0).cells (2 * l.length)) 5)) := (Fr.refl w).alloc _
  have HO := Lib.hid own0
  have HF := Lib.hid F0
  generalize hwg : (w.alloc (.cells (madeCells (Value.int .u8 0).cells (2 * l.length)) 5)) = w1 at *
  have HM := Lib.hid hmk
  clear h hi0 hz0 hz1 hz2 hm2 hms B0 own0 F0 hwg hmk
  have hmk := HM.out
  go_enter Tryz.func137, Tryz.ntmps137
  go_wp2_with fail
  go_loopg [3, 12] l.length (fun g u i wr => ∃ (j : Nat) (au : Option Addr) (cu : Nat), g = l.length - j ∧ j ≤ l.length ∧ u = .slice au (2 * j) cu ∧ i = .int .i64 j ∧ wr.ownsRow w.heap.size 5 1 (.slice au (2 * j) cu) (2 * j) (Lib.byteCells (hexS (l.take j))) ∧ Fr (fun _ => False) w wr)
  case atStart => exact ⟨0, _, _, rfl, Nat.zero_le _, rfl, rfl, HO.out, HF.out⟩
  case round =>
    obtain ⟨j, au, cu, hg, hj, rfl, rfl, hown, F⟩ := hrel
    have HG := Lib.hid hg
    clear hg
    by_cases hjl : j < l.length
    · obtain ⟨a0, cap0, he, _, _, hx⟩ := (H.out.old F).form
      simp only [Value.slice.injEq, true_and] at he
      obtain ⟨rfl, rfl⟩ := he
      obtain ⟨b, off, rfl, hy⟩ := hx (by omega)
      obtain ⟨x, hn⟩ : ∃ n, l[j]? = some n := ⟨_, List.getElem?_eq_getElem hjl⟩
      have e1 := hy j x hn
      have HFT := Lib.hid (hexS_take hn)
      have hxl := x.toNat_lt
      have h15 := and15 x
      have hx1 : hex1 x = [UInt8.ofNat (hexN ((x.toNat : Int) / 16)).toNat, UInt8.ofNat (hexN ((x.toNat % 16 : Nat) : Int)).toNat] := rfl
      obtain ⟨y, hye⟩ : ∃ y : Nat, y = x.toNat := ⟨_, rfl⟩
      rw [← hye] at e1 hxl h15 hx1
      obtain ⟨r, hr⟩ : ∃ r : Nat, r = y % 16 := ⟨_, rfl⟩
      rw [← hr] at h15 hx1
      have hyl : y < 256 := hxl
      have hrl : r < 16 := by omega
      have b1 := hexN_lt ((y : Int) / 16) (by omega) (by omega)
      have b2 := hexN_lt (r : Int) (by omega) (by omega)
      have F1 : Fr (fun _ => False) wr (wr.alloc (.cells #[.int .u8 (hexN ((y : Int) / 16)), .int .u8 (hexN (r : Int))] 5)) := (Fr.refl wr).alloc _
      have hsrc : Bytes (wr.alloc (.cells #[.int .u8 (hexN ((y : Int) / 16)), .int .u8 (hexN (r : Int))] 5)) (.slice (some ⟨wr.heap.size, 0, none⟩) 2 2) (hex1 x) := by
        have h := Vals.of_block (Blk.new wr 5 #[.int .u8 (hexN ((y : Int) / 16)), .int .u8 (hexN (r : Int))]) (by unfold maxLen; simp)
        have e : Lib.byteCells (hex1 x) = [.int .u8 (hexN ((y : Int) / 16)), .int .u8 (hexN (r : Int))] := by
          rw [hx1]
          simp only [Lib.byteCells, List.map_cons, List.map_nil, u8 (hexN ((y : Int) / 16)).toNat (by omega), u8 (hexN (r : Int)).toNat (by omega)]
          rw [Int.toNat_of_nonneg (by omega), Int.toNat_of_nonneg (by omega)]
        show Vals _ _ (Lib.byteCells (hex1 x))
        rw [e]
        exact h
      obtain ⟨v', w2, hrun, h1, F2, _⟩ := append_bytes (ownsRow_fr hown F1 (fun _ _ h => h)) (some ⟨wr.heap.size, 0, none⟩) 2 2 (hex1 x) hsrc (by omega) (Nat.le_trans F.size F1.size)
      obtain ⟨a', m', c', rfl, rfl⟩ := own_shape h1
      have hbk := (Vals.of_own hown).2
      have HF2 := Lib.hid ((F.trans F1).trans' F2 (fun i hi e => by have := (hbk i e).1; omega))
      have HRUN := Lib.hid hrun
      have HOWN := Lib.hid h1
      have r1 : (0 : Int) ≤ (j : Int) := by omega
      have r2 : (j : Int) < (l.length : Int) := by omega
      clear hx hy hn hown F F1 F2 hsrc hrun h1 hbk hx1 hye hr hxl
      go_wp2_with (first | (go_at_call 177; refine (digit_any _ (by omega) (by omega) _).mono ?_; rintro e w' ⟨rfl, rfl⟩) | (at_builtin; refine wpList_append_run (by rfl) (.tmp 16) (.tmp 23) 23 (by rfl) _ w2 (by exact HRUN.out) ?_))
      go_roundg (l.length - (j + 1))
      case measure => rw [HG.out]; omega
      case rel => exact ⟨j + 1, a', c', rfl, by omega, rfl, by go_num, by rw [HFT.out]; exact HOWN.out, HF2.out⟩
    · have hall : l.take j = l := List.take_of_length_le (by omega)
      rw [hall] at hown
      have hs := Lib.hid (str_of (Vals.of_own hown).1)
      clear hown hall
      have hs1 := hs.out
      go_wp2_with fail
      go_ret
      exact ⟨rfl, F⟩
end Go.Proofs.YthamenngccaijaaGreatDoor

namespace Go.Q
open Go Go.RowKit
def attrKeyS (o : List Int) (b : List UInt8) : List UInt8 :=
  oidTextS o ++ (match textReadS b with
    | .ok (k, t, _) => [61, 116] ++ hexS (foldKeyS k t)
    | .error _ => [61, 98] ++ hexS b)
theorem foldKey_len (k : Int) (b : List UInt8) : (foldKeyS k b).length ≤ 8 * b.length := by
  have h1 := ofS_le 12 (foldS (signsS k b))
  have h2 : (foldS (signsS k b)).length ≤ 2 * (signsS k b).length := foldAcc_len _
  have h3 := signsS_len k b
  unfold foldKeyS
  omega
theorem textRead_ok {l b : List UInt8} {k : Int} {n : Nat} (h : textReadS l = .ok (k, b, n)) : rightS k b = true ∧ b.length ≤ l.length := by
  unfold textReadS at h
  split at h
  · cases h
  · split at h
    · cases h
    · split at h
      · cases h
      · split at h
        · rename_i hr
          simp only [Except.ok.injEq, Prod.mk.injEq] at h
          obtain ⟨rfl, rfl, -⟩ := h
          refine ⟨hr, ?_⟩
          rw [List.length_take, List.length_drop]
          omega
        · cases h
end Go.Q
namespace Go.Proofs.YthamenngccaijaaGreatDoor
open Go Go.RowKit Go.Q
def WordsOut (w' : World) (l : List UInt8) (e : Ending) : Prop :=
  match textReadS l with
  | .error _ => e = .returned (.tuple #[.agg #[.int .i64 0, .slice none 0 0], .bool false])
  | .ok (k, b, _) => ∃ u, e = .returned (.tuple #[.agg #[.int .i64 k, u], .bool true]) ∧ Bytes w' u b
set_option maxRecDepth 20000 in
set_option maxHeartbeats 1000000 in
theorem words_any (v : Value) (l : List UInt8) (w : World) (h : Bytes w v l) (hE : Env w) (hl : l.length ≤ 1099511627776) :
    Calls Tryz.prog 116 #[v] w fun e w' => WordsOut w' l e ∧ Fr (fun _ => False) w w' := by
  obtain ⟨z, hz⟩ : ∃ z, z = w.heap.size := ⟨_, rfl⟩
  have F0 : Fr (fun _ => False) w (w.alloc (.cells #[.int .i64 0, .slice none 0 0] 172)) := (Fr.refl w).alloc _
  have BZ := Blk.new w 172 #[.int .i64 0, .slice none 0 0]
  rw [← hz] at BZ
  have HN := Lib.hid (new_any _ v l (h.old F0) hl)
  have HE := Lib.hid (hE.old F0)
  have HZ := Lib.hid hz
  have HF0 := Lib.hid F0
  have hgl := hE.size
  clear h hE hz F0
  go_enter Tryz.func116, Tryz.ntmps116
  go_upto_region 1 with fail
  rw [← HZ.out]
  generalize (w.alloc (.cells #[.int .i64 0, .slice none 0 0] 172)) = w1 at *
  go_wp2_with fail
  refine HN.out.mono ?_
  rintro e w2 ⟨rfl, C2, F2⟩
  have BZ2 := BZ.fr F2 (fun h => h)
  have HE2 := HE.out.old F2
  have hs1 := HF0.out.size
  have hzl := BZ.lt
  obtain ⟨c, hc⟩ : ∃ c, c = w1.heap.size := ⟨_, rfl⟩
  rw [← hc] at C2 ⊢
  have hk1 : ¬ (4 = c ∨ 5 = c) := by
    have : gLim = gLim := rfl
    have h1 : 4 < gLim := by decide
    have h2 : 5 < gLim := by decide
    omega
  have HR := Lib.hid (textRead_any C2 HE2.tabs hk1)
  have HF2 := Lib.hid (HF0.out.trans F2)
  have hcz : z < c := by omega
  have hcw : w.heap.size ≤ c := by omega
  clear HN HF0 F2 BZ hc HE2 C2 hk1 HE
  go_wp2_with fail
  refine HR.out.mono ?_
  rintro e w3 ⟨hout, F3⟩
  have BZ3 := BZ2.fr F3 (by omega)
  have hlt3 := BZ3.lt
  have HF3 := Lib.hid (HF2.out.trans' F3 (fun i hi e => by omega))
  unfold TextOut at hout
  rw [List.drop_zero] at hout
  cases hr : textReadS l with
  | error x =>
    rw [hr] at hout
    obtain ⟨rfl, hx, C3⟩ := hout
    have hx1 : (x == 0) = false := beq_eq_false_iff_ne.2 hx
    have HRR := Lib.hid hr
    go_upto_region 2 with fail
    have BZ4 := BZ3.alloc (.cells #[.int .i64 0, .slice none 0 0] 172)
    have BY4 := Blk.new w3 172 #[.int .i64 0, .slice none 0 0]
    have F4 : Fr (fun _ => False) w3 (w3.alloc (.cells #[.int .i64 0, .slice none 0 0] 172)) := (Fr.refl w3).alloc _
    obtain ⟨y, hy⟩ : ∃ y, y = w3.heap.size := ⟨_, rfl⟩
    rw [← hy] at BY4 ⊢
    clear hy
    generalize (w3.alloc (.cells #[.int .i64 0, .slice none 0 0] 172)) = w4 at *
    have y0 := BY4.cell 0
    have y1 := BY4.cell 1
    simp only [List.getElem?_toArray, List.getElem?_cons_succ, List.getElem?_cons_zero] at y0 y1
    have z0 := BZ4.cell 0
    have z1 := BZ4.cell 1
    have f0 := BZ4.frozen 0
    have f1 := BZ4.frozen 1
    simp only [List.getElem?_toArray, List.getElem?_cons_succ, List.getElem?_cons_zero] at z0 z1
    obtain ⟨BZ5, F5⟩ := set2 BZ4 (.int .i64 0) (.slice none 0 0)
    have n0 := BZ5.cell 0
    have n1 := BZ5.cell 1
    simp only [List.getElem?_toArray, List.getElem?_cons_succ, List.getElem?_cons_zero] at n0 n1
    have HF5 := Lib.hid ((HF3.out.trans F4).trans' F5 (fun i hi e => by have := HZ.out; omega))
    clear hr C3 F3 F4 BZ2 BZ3 BZ4 BZ5 F5 BY4 HF2 HF3 HR hx
    go_wp2_with fail
    refine bodyPost_ret (v := .tuple #[.agg #[.int .i64 0, .slice none 0 0], .bool false]) (by simp [results, Tryz.results116, go_sem, n0, n1]) rfl ⟨?_, HF5.out⟩
    unfold WordsOut
    rw [HRR.out]
  | ok kbn =>
    obtain ⟨k, b, n⟩ := kbn
    rw [hr] at hout
    obtain ⟨⟨u, rfl, ho⟩, C3⟩ := hout
    have HRR := Lib.hid hr
    obtain ⟨au, mu, cu, rfl, rfl⟩ := own_shape ho
    go_upto_region 2 with fail
    have BZ4 := BZ3.alloc (.cells #[.int .i64 k, .slice au b.length cu] 172)
    have BY4 := Blk.new w3 172 #[.int .i64 k, .slice au b.length cu]
    have F4 : Fr (fun _ => False) w3 (w3.alloc (.cells #[.int .i64 k, .slice au b.length cu] 172)) := (Fr.refl w3).alloc _
    obtain ⟨y, hy⟩ : ∃ y, y = w3.heap.size := ⟨_, rfl⟩
    rw [← hy] at BY4 ⊢
    clear hy
    generalize (w3.alloc (.cells #[.int .i64 k, .slice au b.length cu] 172)) = w4 at *
    have y0 := BY4.cell 0
    have y1 := BY4.cell 1
    simp only [List.getElem?_toArray, List.getElem?_cons_succ, List.getElem?_cons_zero] at y0 y1
    have z0 := BZ4.cell 0
    have z1 := BZ4.cell 1
    have f0 := BZ4.frozen 0
    have f1 := BZ4.frozen 1
    simp only [List.getElem?_toArray, List.getElem?_cons_succ, List.getElem?_cons_zero] at z0 z1
    obtain ⟨BZ5, F5⟩ := set2 BZ4 (.int .i64 k) (.slice au b.length cu)
    have n0 := BZ5.cell 0
    have n1 := BZ5.cell 1
    simp only [List.getElem?_toArray, List.getElem?_cons_succ, List.getElem?_cons_zero] at n0 n1
    have HF5 := Lib.hid ((HF3.out.trans F4).trans' F5 (fun i hi e => by have := HZ.out; omega))
    have hzs := BZ2.lt
    have ho2 := ownsRow_fr (ownsRow_fr ho F4 (fun _ _ h => h)) F5 (fun q hq e => by have := ((Vals.of_own ho).2 q hq).1; omega)
    have HB := Lib.hid (Vals.of_own ho2).1
    clear hr C3 F3 F4 BZ2 BZ3 BZ4 BZ5 F5 BY4 HF2 HF3 HR ho ho2
    go_wp2_with fail
    refine bodyPost_ret (v := .tuple #[.agg #[.int .i64 k, .slice au b.length cu], .bool true]) (by simp [results, Tryz.results116, go_sem, n0, n1]) rfl ⟨?_, HF5.out⟩
    unfold WordsOut
    rw [HRR.out]
    exact ⟨_, rfl, HB.out⟩
set_option maxRecDepth 20000 in
set_option maxHeartbeats 1000000 in
theorem attrKey_any (x y : Value) (o : List Int) (b : List UInt8) (w : World) (hx : Ints w x o) (hy : Bytes w y b) (ho : oidOk o = true) (hl : b.length ≤ 10000000) (hE : Env w) :
    Calls Tryz.prog 204 #[.agg #[x, y]] w fun e w' => e = .returned (str (attrKeyS o b)) ∧ Fr (fun _ => False) w w' := by
  obtain ⟨ax, cx, rfl, -⟩ := Ints.form hx
  obtain ⟨ay, cy, rfl, -⟩ := Vals.form hy
  obtain ⟨z, hz⟩ : ∃ z, z = w.heap.size := ⟨_, rfl⟩
  have BZ := Blk.new w 108 #[.slice ax o.length cx, .slice ay b.length cy]
  have F0 : Fr (fun _ => False) w (w.alloc (.cells #[.slice ax o.length cx, .slice ay b.length cy] 108)) := (Fr.refl w).alloc _
  have HT := Lib.hid (oidText_any _ o _ (hx.old F0) ho (hE.old F0))
  have HY := Lib.hid (hy.old F0)
  have HE := Lib.hid (hE.old F0)
  rw [← hz] at BZ
  have HF0 := Lib.hid F0
  have HZ := Lib.hid hz
  have hk : attrKeyS o b = oidTextS o ++ (match textReadS b with | .ok (k, t, _) => [61, 116] ++ hexS (foldKeyS k t) | .error _ => [61, 98] ++ hexS b) := rfl
  have HK := Lib.hid hk
  have ho0 := Lib.hid ho
  clear hx hy F0 hz ho hE hk
  have hol : o.length ≤ 32 := (nums_ok ho0.out).2.1
  have hot : (oidTextS o).length ≤ 1000 := by
    have hall := ho0.out
    simp only [oidOk, Bool.and_eq_true, decide_eq_true_eq] at hall
    have := oidText_len (o := o) (fun n hn => by
      have := List.all_eq_true.1 hall.1.2 n hn
      simp only [arcOk, decide_eq_true_eq] at this
      omega)
    omega
  have hos : (ByteArray.mk (oidTextS o).toArray).size = (oidTextS o).length := by simp [ByteArray.size]
  generalize oidTextS o = ot at *
  go_enter Tryz.func204, Tryz.ntmps204
  go_upto_region 1 with fail
  rw [← HZ.out]
  generalize (w.alloc (.cells #[.slice ax o.length cx, .slice ay b.length cy] 108)) = w0 at *
  have z0 := BZ.cell 0
  simp at z0
  go_wp2_with fail
  refine HT.out.mono ?_
  rintro e w1 ⟨rfl, F1⟩
  have BZ1 := BZ.fr F1 (fun h => h)
  have z1 := BZ1.cell 1
  simp at z1
  have HY1 := Lib.hid (HY.out.old F1)
  have HE1 := Lib.hid (HE.out.old F1)
  have HF1 := Lib.hid (HF0.out.trans F1)
  clear HT HY HE HF0 F1 z0 BZ
  go_wp2_with fail
  refine (words_any _ b w1 HY1.out HE1.out (by omega)).mono ?_
  rintro e w2 ⟨hout, F2⟩
  have BZ2 := BZ1.fr F2 (fun h => h)
  have HY2 := Lib.hid (HY1.out.old F2)
  have HE2 := Lib.hid (HE1.out.old F2)
  have HF2 := Lib.hid (HF1.out.trans F2)
  unfold WordsOut at hout
  clear HY1 HE1 HF1 F2 z1 BZ1
  cases hr : textReadS b with
  | error x =>
    rw [hr] at hout
    subst hout
    have F3 : Fr (fun _ => False) w2 (w2.alloc (.cells #[.int .i64 0, .slice none 0 0] 172)) := (Fr.refl w2).alloc _
    have BZ3 := BZ2.fr F3 (fun h => h)
    have z1 := BZ3.cell 1
    simp only [List.getElem?_toArray, List.getElem?_cons_succ, List.getElem?_cons_zero] at z1
    have HX := Lib.hid (hex_any _ b _ (HY2.out.old F3) (by omega))
    have HF3 := Lib.hid (HF2.out.trans F3)
    have hkk := HK.out
    rw [hr] at hkk
    have HKK := Lib.hid hkk
    have hhl := hexS_len b
    have hhs : (ByteArray.mk (hexS b).toArray).size = (hexS b).length := by simp [ByteArray.size]
    clear hr hkk HY2 HF2 F3 BZ2 BZ3
    generalize hexS b = hb at *
    go_wp2_with fail
    refine HX.out.mono ?_
    rintro e w4 ⟨rfl, F4⟩
    go_wp2_with fail
    go_ret
    refine ⟨congrArg (fun x : ByteArray => Ending.returned (.string x)) ?_, HF3.out.trans F4⟩
    rw [HKK.out, ← List.append_assoc, ← ba_cat, ← ba_cat]
  | ok kbn =>
    obtain ⟨k, t, n⟩ := kbn
    rw [hr] at hout
    obtain ⟨u, rfl, hu⟩ := hout
    obtain ⟨hrt, htl⟩ := textRead_ok hr
    obtain ⟨au, cu, rfl, -⟩ := hu.form
    have F3 : Fr (fun _ => False) w2 (w2.alloc (.cells #[.int .i64 k, .slice au t.length cu] 172)) := (Fr.refl w2).alloc _
    have HX := Lib.hid (foldKey_any k _ t _ (hu.old F3) (HE2.out.old F3).tabs hrt (by omega))
    have HF3 := Lib.hid (HF2.out.trans F3)
    have hkk := HK.out
    rw [hr] at hkk
    simp only at hkk
    have HKK := Lib.hid hkk
    have hfl := foldKey_len k t
    clear hr hkk HY2 HF2 F3 BZ2 hu hrt
    generalize foldKeyS k t = fk at *
    go_upto_region 4 with fail
    have BY := Blk.new w2 172 #[.int .i64 k, .slice au t.length cu]
    obtain ⟨y, hy⟩ : ∃ y, y = w2.heap.size := ⟨_, rfl⟩
    rw [← hy] at BY ⊢
    clear hy
    generalize (w2.alloc (.cells #[.int .i64 k, .slice au t.length cu] 172)) = w3 at *
    have y0 := BY.cell 0
    have y1 := BY.cell 1
    simp only [List.getElem?_toArray, List.getElem?_cons_succ, List.getElem?_cons_zero] at y0 y1
    go_wp2_with fail
    refine HX.out.mono ?_
    rintro e w4 ⟨rfl, F4⟩
    obtain ⟨cp, wc, hcv, hbv, FC, -⟩ := bytes_of_str w4 fk (by omega)
    have HXX := Lib.hid (hex_any _ fk wc hbv (by omega))
    have HF4 := Lib.hid ((HF3.out.trans F4).trans FC)
    have hhl := hexS_len fk
    have hhs : (ByteArray.mk (hexS fk).toArray).size = (hexS fk).length := by simp [ByteArray.size]
    clear HX HF3 F4 hbv FC BY y0 y1
    generalize hexS fk = hb at *
    go_wp2_with fail
    refine HXX.out.mono ?_
    rintro e w5 ⟨rfl, F5⟩
    go_wp2_with fail
    go_ret
    refine ⟨congrArg (fun x : ByteArray => Ending.returned (.string x)) ?_, HF4.out.trans F5⟩
    rw [HKK.out, ← List.append_assoc, ← ba_cat, ← ba_cat]
end Go.Proofs.YthamenngccaijaaGreatDoor

namespace Go.Q
open Go Go.RowKit
def Kept (R : World → Prop) (K : Nat → Prop) (w : World) : Prop := ∀ w', Fr K w w' → R w'
theorem Kept.now {R : World → Prop} {K : Nat → Prop} {w : World} (h : Kept R K w) : R w := h w (Fr.refl w)
theorem Kept.step {R : World → Prop} {K K' S : Nat → Prop} {w w' : World} (h : Kept R K w) (f : Fr S w w') (hS : ∀ k, k < w.heap.size → S k → K k) (hK : ∀ k, K' k → K k ∨ w.heap.size ≤ k) : Kept R K' w' := fun w2 f2 =>
  h w2 ((f.mono hS).trans' f2 (fun i hi e => (hK i e).elim id (fun h => by omega)))
theorem Kept.old {R : World → Prop} {K : Nat → Prop} {w w' : World} (h : Kept R K w) (f : Fr (fun _ => False) w w') : Kept R K w' := h.step f (fun _ _ h => h.elim) (fun _ h => .inl h)
def leastWhole (l : List UInt8) : List UInt8 := wrapS (tagOf (leastK l)) l
def stepS (l : List UInt8) : Option Part :=
  if (cut1 61 l).2.2 = false then none else match fromTextS (cut1 61 l).1 with
    | .error _ => none
    | .ok o => some ⟨o, leastWhole (cut1 61 l).2.1⟩
theorem Attrs.of_block {w : World} {g : Nat} {x y : Value} {p : Part} (B : Blk w g 108 #[x, y]) (hx : Vals w x (intCells p.o)) (hy : Bytes w y p.b) : Attrs w (.slice (some ⟨g, 0, none⟩) 1 1) [p] :=
  ⟨_, 1, rfl, Nat.le_refl _, by unfold maxLen; omega, fun _ => ⟨g, 0, rfl, fun i q hq => by
    match i, hq with
    | 0, hq =>
      simp only [List.getElem?_cons_zero, Option.some.injEq] at hq
      subst hq
      exact ⟨x, y, B.cell 0, B.cell 1, hx, hy⟩
    | i + 1, hq => simp at hq⟩⟩
end Go.Q
namespace Go.Proofs.YthamenngccaijaaGreatDoor
open Go Go.RowKit Go.Q
def StepOut (w w' : World) (l : List UInt8) (e : Ending) : Prop :=
  match stepS l with
  | none => e = .returned (.tuple #[.slice none 0 0, .int .i64 6])
  | some p => ∃ a c, e = .returned (.tuple #[.slice a 1 c, .int .i64 0]) ∧ Kept (fun W => Attrs W (.slice a 1 c) [p]) (fun k => k < w.heap.size) w'
end Go.Proofs.YthamenngccaijaaGreatDoor

namespace Go.Q
open Go Go.RowKit
def NmRow (w : World) (base : Nat) (v : Value) (n : List (List Part)) : Prop :=
  ∃ us : List Value, w.ownsRow base 90 1 v n.length us ∧ us.length = n.length ∧ ∀ (i : Nat) (u : Value) (r : List Part), us[i]? = some u → n[i]? = some r → Kept (fun W => Attrs W u r) (fun k => v.ownBlock = some k) w
theorem NmRow.at {w : World} {base : Nat} {v : Value} {n : List (List Part)} (h : NmRow w base v n) : NameAt w v n := by
  obtain ⟨us, h1, h2, h3⟩ := h
  obtain ⟨a, cap, he, hc, hm, hx⟩ := (Vals.of_own h1).1
  rw [h2] at he hc hx
  refine ⟨a, cap, he, hc, hm, fun h0 => ?_⟩
  obtain ⟨b, o, rfl, hy⟩ := hx h0
  refine ⟨b, o, rfl, fun i r hr => ?_⟩
  have hi : i < us.length := by rw [h2]; exact (List.getElem?_eq_some_iff.1 hr).1
  exact ⟨us[i], hy i _ (List.getElem?_eq_getElem hi), (h3 i _ r (List.getElem?_eq_getElem hi) hr).now⟩
theorem NmRow.old {w w' : World} {base : Nat} {v : Value} {n : List (List Part)} (h : NmRow w base v n) (f : Fr (fun _ => False) w w') : NmRow w' base v n := by
  obtain ⟨us, h1, h2, h3⟩ := h
  exact ⟨us, Go.Proofs.YthamenngccaijaaGreatDoor.ownsRow_fr h1 f (fun _ _ h => h), h2, fun i u r hu hr => (h3 i u r hu hr).old f⟩
theorem NmRow.kept {w : World} {base : Nat} {v : Value} {n : List (List Part)} (h : NmRow w base v n) : ∀ k, v.ownBlock = some k → base ≤ k ∧ k < w.heap.size := by
  obtain ⟨us, h1, -⟩ := h
  exact (Vals.of_own h1).2
theorem NmRow.shape {w : World} {base : Nat} {v : Value} {n : List (List Part)} (h : NmRow w base v n) : ∃ a c, v = .slice a n.length c := by
  obtain ⟨us, h1, -⟩ := h
  obtain ⟨a, m, c, rfl, rfl⟩ := own_shape h1
  exact ⟨a, c, rfl⟩
theorem Attrs.form {w : World} {v : Value} {l : List Part} (h : Attrs w v l) : ∃ a cap, v = .slice a l.length cap := by
  obtain ⟨a, cap, rfl, -⟩ := h
  exact ⟨a, cap, rfl⟩
theorem NmRow.nil (w : World) (base : Nat) : NmRow w base (.slice none 0 0) [] := ⟨[], ⟨rfl, .inl ⟨rfl, rfl⟩⟩, rfl, fun i u r h => by simp at h⟩
def stepsOfS : List (List UInt8) → Option (List (List Part))
  | [] => some []
  | s :: t => match stepS s with
    | none => none
    | some p => (stepsOfS t).map ([p] :: ·)
def nameOfS (l : List (List UInt8)) : Except Int (List (List Part)) :=
  match stepsOfS l with
  | none => .error 6
  | some n => if 64 < n.length then .error 2 else .ok n
end Go.Q
namespace Go.Proofs.YthamenngccaijaaGreatDoor
open Go Go.RowKit Go.Q
theorem info90 : (Tryz.prog.info? 90).map (fun i => (i.zero, i.size, i.bytes)) = some (some (.slice none 0 0), 1, 24) := by kernel_rfl
theorem NmRow.add {w wa : World} {base : Nat} {v : Value} {n : List (List Part)} (h : NmRow w base v n) (hb : base ≤ w.heap.size) (F1 : Fr (fun _ => False) w wa) (g : Nat) (u : Value) (r : List Part) (BX : Blk wa g 90 #[u]) (hu1 : u.oneCell' = true) (hu : Kept (fun W => Attrs W u r) (fun k => v.ownBlock = some k) w) (hn : n.length ≤ 109951162777) :
    ∃ a c w', (Builtin.append_ #[25, 25] 25 #[v, .slice (some ⟨g, 0, none⟩) 1 1]).run Tryz.prog wa = .ok (.slice a (n.length + 1) c) w' ∧ NmRow w' base (.slice a (n.length + 1) c) (n ++ [r]) ∧ Fr (fun k => v.ownBlock = some k) w w' := by
  obtain ⟨us, h1, h2, h3⟩ := h
  obtain ⟨a, c, w', hrun, h4, F2, h5⟩ := add_gen Tryz.underlying25 info90 rfl (by decide) (by decide) h1 hb F1 g [u] rfl BX (by simpa using hu1) hn
  refine ⟨a, c, w', hrun, ⟨us ++ [u], ?_, by simp [h2], fun i x s hx hs => ?_⟩, F2⟩
  · rw [List.length_append]
    exact h4
  · rcases Nat.lt_or_ge i us.length with hi | hi
    · rw [List.getElem?_append_left hi] at hx
      rw [List.getElem?_append_left (by omega)] at hs
      exact (h3 i x s hx hs).step F2 (fun _ _ h => h) h5
    · obtain rfl : i = us.length := by
        have := (List.getElem?_eq_some_iff.1 hx).1
        simp at this
        omega
      rw [List.getElem?_append_right (Nat.le_refl _)] at hx
      rw [List.getElem?_append_right (by omega)] at hs
      simp at hx
      simp [h2] at hs
      subst hx; subst hs
      exact hu.step F2 (fun _ _ h => h) h5
def NameOfOut (w w' : World) (l : List (List UInt8)) (e : Ending) : Prop :=
  match nameOfS l with
  | .error x => e = .returned (.tuple #[.slice none 0 0, .int .i64 x]) ∧ x ≠ 0
  | .ok n => ∃ v, e = .returned (.tuple #[v, .int .i64 0]) ∧ NmRow w' w.heap.size v n
end Go.Proofs.YthamenngccaijaaGreatDoor

namespace Go.Q
open Go Go.RowKit
def cmpI : List Int → List Int → Int
  | [], [] => 0
  | [], _ :: _ => -1
  | _ :: _, [] => 1
  | x :: s, y :: t => if x < y then -1 else if y < x then 1 else cmpI s t
def AttrRow (w wr : World) (base : Nat) (v : Value) (l : List Part) : Prop :=
  ∃ cs : List Value, wr.ownsRow base 108 2 v l.length cs ∧ ∀ (i : Nat) (p : Part), l[i]? = some p → ∃ x y, cs[2 * i]? = some x ∧ cs[2 * i + 1]? = some y ∧ Vals w x (intCells p.o) ∧ Bytes w y p.b
theorem AttrRow.at {w wr : World} {base : Nat} {v : Value} {l : List Part} (h : AttrRow w wr base v l) (F : Fr (fun _ => False) w wr) : Attrs wr v l := by
  obtain ⟨cs, ⟨h1, h2⟩, h3⟩ := h
  rcases h2 with ⟨rfl, h0⟩ | ⟨g, cap, cur, rfl, hg, hh, hnc, hcm, hcs, htk⟩
  · exact ⟨none, 0, by rw [h0], by omega, by unfold maxLen; omega, fun h => by omega⟩
  · refine ⟨_, cap, rfl, hnc, hcm, fun _ => ⟨g, 0, rfl, fun i p hp => ?_⟩⟩
    obtain ⟨x, y, e1, e2, e3, e4⟩ := h3 i p hp
    have hi := (List.getElem?_eq_some_iff.1 hp).1
    have gc : ∀ k, k < l.length * 2 → wr.cell? ⟨g, 0 + k, none⟩ = cs[k]? := fun k hk => by
      have := congrArg (fun z : List Value => z[k]?) htk
      simp only [List.getElem?_take, if_pos hk, Array.getElem?_toList] at this
      rw [Nat.zero_add]
      simp only [World.cell?, hh]
      exact this
    refine ⟨x, y, ?_, ?_, e3.old F, e4.old F⟩
    · rw [gc (2 * i) (by omega)]; exact e1
    · rw [Nat.add_assoc, gc (2 * i + 1) (by omega)]; exact e2
end Go.Q
namespace Go.Proofs.YthamenngccaijaaGreatDoor
open Go Go.RowKit Go.Q
theorem info108 : (Tryz.prog.info? 108).map (fun i => (i.zero, i.size, i.bytes)) = some (some (.agg #[.slice none 0 0, .slice none 0 0]), 2, 48) := by kernel_rfl
theorem AttrRow.add {w wr : World} {base : Nat} {v u : Value} {l r : List Part} (h : AttrRow w wr base v l) (hb : base ≤ wr.heap.size) (F : Fr (fun _ => False) w wr) (hr : Attrs w u r) (hr0 : 0 < r.length) (hn : l.length + r.length ≤ 1099511627776) :
    ∃ a c w', (Builtin.append_ #[90, 90] 90 #[v, u]).run Tryz.prog wr = .ok (.slice a (l.length + r.length) c) w' ∧ AttrRow w w' base (.slice a (l.length + r.length) c) (l ++ r) ∧ Fr (fun k => v.ownBlock = some k) wr w' := by
  obtain ⟨cs, h1, h3⟩ := h
  obtain ⟨ar, cr, rfl, hrc, hrm, hx⟩ := hr
  obtain ⟨b, o, rfl, hy⟩ := hx hr0
  have hcell : ∀ i, i < r.length → ∃ p x y, r[i]? = some p ∧ w.cell? ⟨b, o + 2 * i, none⟩ = some x ∧ w.cell? ⟨b, o + 2 * i + 1, none⟩ = some y ∧ Vals w x (intCells p.o) ∧ Bytes w y p.b := fun i hi => by
    obtain ⟨x, y, e⟩ := hy i _ (List.getElem?_eq_getElem hi)
    exact ⟨_, x, y, List.getElem?_eq_getElem hi, e⟩
  have hall : ∀ k, k < r.length * 2 → ∃ x, w.cell? ⟨b, o + k, none⟩ = some x ∧ x.oneCell' = true := fun k hk => by
    obtain ⟨p, x, y, -, e1, e2, e3, e4⟩ := hcell (k / 2) (by omega)
    rcases Nat.mod_two_eq_zero_or_one k with h0 | h0
    · obtain ⟨ax, cx, rfl, -⟩ := Ints.form e3
      exact ⟨_, by rw [show k = 2 * (k / 2) from by omega]; exact e1, rfl⟩
    · obtain ⟨ay, cy, rfl, -⟩ := Vals.form e4
      exact ⟨_, by rw [show k = 2 * (k / 2) + 1 from by omega, ← Nat.add_assoc]; exact e2, rfl⟩
  obtain ⟨news, hnl, hnews⟩ : ∃ news : List Value, news.length = r.length * 2 ∧ ∀ k x, news[k]? = some x → w.cell? ⟨b, o + k, none⟩ = some x ∧ x.oneCell' = true := by
    refine ⟨(List.range (r.length * 2)).map fun k => (w.cell? ⟨b, o + k, none⟩).getD undef, by simp, fun k x hk => ?_⟩
    have hkl : k < r.length * 2 := by
      have := (List.getElem?_eq_some_iff.1 hk).1
      simpa using this
    obtain ⟨y, e1, e2⟩ := hall k hkl
    rw [List.getElem?_map, List.getElem?_range hkl] at hk
    simp only [Option.map_some, Option.some.injEq] at hk
    rw [e1] at hk
    simp only [Option.getD_some] at hk
    subst hk
    exact ⟨e1, e2⟩
  obtain ⟨a, c, w', hrun, h4, F2, -⟩ := append_gen Tryz.underlying90 info108 rfl (by decide) (by decide) h1 hb ⟨b, o, none⟩ r.length cr news hnl (fun k x hk => by
    rw [show (⟨b, o, none⟩ : Addr).add k = ⟨b, o + k, none⟩ from by unfold Addr.add; split <;> simp_all]
    exact F.cell (hnews k x hk).1 (fun h => h)) (fun x hx => by
    obtain ⟨k, hk⟩ := List.mem_iff_getElem?.1 hx
    exact (hnews k x hk).2) hn
  have hcl : cs.length = l.length * 2 := h1.1
  refine ⟨a, c, w', hrun, ⟨cs ++ news, by rw [List.length_append]; exact h4, fun i p hp => ?_⟩, F2⟩
  rcases Nat.lt_or_ge i l.length with hi | hi
  · rw [List.getElem?_append_left hi] at hp
    obtain ⟨x, y, e1, e2, e3⟩ := h3 i p hp
    exact ⟨x, y, by rw [List.getElem?_append_left (by omega)]; exact e1, by rw [List.getElem?_append_left (by omega)]; exact e2, e3⟩
  · rw [List.getElem?_append_right hi] at hp
    have hil := (List.getElem?_eq_some_iff.1 hp).1
    obtain ⟨q, x, y, hq, e1, e2, e3⟩ := hcell (i - l.length) hil
    rw [hp] at hq
    simp only [Option.some.injEq] at hq
    subst hq
    have g1 : news[2 * (i - l.length)]? = some x := by
      have hlt : 2 * (i - l.length) < news.length := by omega
      obtain ⟨z, hz⟩ : ∃ z, news[2 * (i - l.length)]? = some z := ⟨_, List.getElem?_eq_getElem hlt⟩
      have := (hnews _ z hz).1
      rw [e1] at this
      rw [hz, ← this]
    have g2 : news[2 * (i - l.length) + 1]? = some y := by
      have hlt : 2 * (i - l.length) + 1 < news.length := by omega
      obtain ⟨z, hz⟩ : ∃ z, news[2 * (i - l.length) + 1]? = some z := ⟨_, List.getElem?_eq_getElem hlt⟩
      have := (hnews _ z hz).1
      rw [← Nat.add_assoc, e2] at this
      rw [hz, ← this]
    refine ⟨x, y, ?_, ?_, e3⟩
    · rw [List.getElem?_append_right (by omega), show 2 * i - cs.length = 2 * (i - l.length) from by omega]; exact g1
    · rw [List.getElem?_append_right (by omega), show 2 * i + 1 - cs.length = 2 * (i - l.length) + 1 from by omega]; exact g2
end Go.Proofs.YthamenngccaijaaGreatDoor

namespace Go.Q
open Go Go.RowKit
def partKeys (r : List Part) : List (List UInt8) := r.map fun p => attrKeyS p.o p.b
def rdnKeyS (r : List Part) : List UInt8 := Lib.join (Lib.compact (sortS (partKeys r))) [43]
theorem join_len (c : UInt8) (M : Nat) : ∀ ks : List (List UInt8), (∀ k ∈ ks, k.length ≤ M) → (Lib.join ks [c]).length ≤ ks.length * (M + 1)
  | [], _ => by simp [Lib.join]
  | [k], h => by
    have := h k (by simp)
    simp [Lib.join]
    omega
  | k :: l :: t, h => by
    have h1 := h k (by simp)
    have ih := join_len c M (l :: t) (fun x hx => h x (by simp [List.mem_cons.1 hx]))
    have e : Lib.join (k :: l :: t) [c] = k ++ ([c] ++ Lib.join (l :: t) [c]) := by simp [Lib.join, List.intercalate]
    rw [e]
    simp only [List.length_append, List.length_cons, List.length_nil] at ih ⊢
    rw [Nat.add_mul (t.length + 1) 1 (M + 1)]
    omega
theorem compact_mem {zs : List (List UInt8)} {x : List UInt8} (h : x ∈ Lib.compact zs) : x ∈ zs := by
  unfold Lib.compact Lib.compactUpTo at h
  obtain ⟨i, hi, rfl⟩ := List.mem_map.1 h
  have hi2 := List.mem_range.1 (List.mem_filter.1 hi).1
  simp [hi2]
theorem sort_mem {zs : List (List UInt8)} {x : List UInt8} (h : x ∈ sortS zs) : x ∈ zs := by
  unfold sortS at h
  simpa using h
theorem attrKey_len {o : List Int} {b : List UInt8} (ho : oidOk o = true) (hb : b.length ≤ 10000000) : (attrKeyS o b).length ≤ 160001100 := by
  have hol := (Go.Proofs.YthamenngccaijaaGreatDoor.nums_ok ho).2.1
  have h1 := oidText_len (o := o) (fun n hn => by
    simp only [oidOk, Bool.and_eq_true, decide_eq_true_eq] at ho
    have := List.all_eq_true.1 ho.1.2 n hn
    simp only [arcOk, decide_eq_true_eq] at this
    omega)
  unfold attrKeyS
  rw [List.length_append]
  cases hr : textReadS b with
  | error e =>
    simp only [List.length_append, List.length_cons, List.length_nil, hexS_len]
    omega
  | ok kbn =>
    obtain ⟨k, t, n⟩ := kbn
    have h2 := (textRead_ok hr).2
    have h3 := foldKey_len k t
    simp only [List.length_append, List.length_cons, List.length_nil, hexS_len]
    omega
end Go.Q
namespace Go.Proofs.YthamenngccaijaaGreatDoor
open Go Go.RowKit Go.Q
set_option maxRecDepth 20000 in
set_option maxHeartbeats 2000000 in
theorem rdnKey_any (v : Value) (l : List Part) (w : World) (h : Attrs w v l) (hf : fewB l) (ho : ∀ p ∈ l, oidOk p.o = true) (hln : l.length ≤ 100) (hE : Env w) :
    Calls Tryz.prog 160 #[v] w fun e w' => e = .returned (str (rdnKeyS l)) ∧ Fr (fun _ => False) w w' := by
  have H := Lib.hid h
  have HE := Lib.hid hE
  have HO := Lib.hid ho
  obtain ⟨a, cap, rfl, hc, hm, -⟩ := h
  have hkl : ∀ k ∈ Lib.compact (sortS (partKeys l)), k.length ≤ 160001100 := fun k hk => by
    have h1 := sort_mem (compact_mem hk)
    obtain ⟨p, hp, rfl⟩ := List.mem_map.1 h1
    exact attrKey_len (ho p hp) (hf p hp)
  have HKL := Lib.hid hkl
  clear hE ho hkl
  go_enter Tryz.func160, Tryz.ntmps160
  go_wp2_with fail
  go_loopg [3, 8] l.length (fun g u i wr => ∃ (j : Nat) (au : Option Addr) (cu : Nat), g = l.length - j ∧ j ≤ l.length ∧ u = .slice au j cu ∧ i = .int .i64 j ∧ wr.ownsRow w.heap.size 9 1 (.slice au j cu) j ((partKeys (l.take j)).map str) ∧ Fr (fun _ => False) w wr)
  case atStart => exact ⟨0, none, 0, rfl, Nat.zero_le _, rfl, rfl, ⟨rfl, .inl ⟨rfl, rfl⟩⟩, Fr.refl _⟩
  case round =>
    obtain ⟨j, au, cu, hg, hj, rfl, rfl, hown, F⟩ := hrel
    have HG := Lib.hid hg
    have HOW := Lib.hid hown
    have HF := Lib.hid F
    clear hg hown
    by_cases hjl : j < l.length
    · obtain ⟨a0, cap0, he, _, _, hx⟩ := H.out.old F
      simp only [Value.slice.injEq, true_and] at he
      obtain ⟨rfl, rfl⟩ := he
      obtain ⟨b, off, rfl, hy⟩ := hx (by omega)
      obtain ⟨p, hp⟩ : ∃ p, l[j]? = some p := ⟨_, List.getElem?_eq_getElem hjl⟩
      obtain ⟨x, y, e1, e2, hpx, hpy⟩ := hy j p hp
      have hpb := hf p (List.mem_of_getElem? hp)
      have hpo := HO.out p (List.mem_of_getElem? hp)
      have r1 : (0 : Int) ≤ (j : Int) := by omega
      have r2 : (j : Int) < (l.length : Int) := by omega
      obtain ⟨ax, cx, rfl, -⟩ := Ints.form hpx
      obtain ⟨ay, cy, rfl, -⟩ := Vals.form hpy
      have e1' : wr.cell? ⟨b, off + j * 2, none⟩ = some (.slice ax p.o.length cx) := by rw [Nat.mul_comm]; exact e1
      have e2' : wr.cell? ⟨b, off + j * 2 + 1, none⟩ = some (.slice ay p.b.length cy) := by rw [Nat.mul_comm]; exact e2
      have HP := Lib.hid hp
      have HPX := Lib.hid hpx
      have HPY := Lib.hid hpy
      clear hx hy hp F hpx hpy
      go_upto_region 5 with fail
      have BZ := Blk.new wr 108 #[.slice ax p.o.length cx, .slice ay p.b.length cy]
      have F1 : Fr (fun _ => False) wr (wr.alloc (.cells #[.slice ax p.o.length cx, .slice ay p.b.length cy] 108)) := (Fr.refl wr).alloc _
      have HK := Lib.hid (attrKey_any _ _ p.o p.b _ (HPX.out.old F1) (HPY.out.old F1) hpo hpb ((HE.out.old HF.out).old F1))
      have HOW1 := Lib.hid (ownsRow_fr HOW.out F1 (fun _ _ h => h))
      have HF1 := Lib.hid (HF.out.trans F1)
      clear e1 e2 e1' e2' HPX HPY HF F1 HOW
      generalize (wr.alloc (.cells #[.slice ax p.o.length cx, .slice ay p.b.length cy] 108)) = w1 at *
      have z0 := BZ.cell 0
      have z1 := BZ.cell 1
      simp at z0 z1
      have hpk : partKeys (l.take (j + 1)) = partKeys (l.take j) ++ [attrKeyS p.o p.b] := by
        unfold partKeys
        rw [List.take_add_one, HP.out]
        simp
      have HPK := Lib.hid hpk
      clear hpk
      generalize attrKeyS p.o p.b = ky at *
      go_wp2_with fail
      refine HK.out.mono ?_
      rintro e w2 ⟨rfl, F2⟩
      have F3 : Fr (fun _ => False) w2 (w2.alloc (.cells #[str ky] 9)) := (Fr.refl w2).alloc _
      have hs1 := HF1.out.size
      have hs2 := F2.size
      have hbk := (Vals.of_own HOW1.out).2
      obtain ⟨a', c', w4, hrun, hown4, F4, hk4⟩ := add_gen Tryz.underlying68 info9 rfl (by decide) (by decide) (ownsRow_fr HOW1.out F2 (fun _ _ h => h)) (by omega) F3 w2.heap.size [str ky] rfl (Blk.new w2 9 #[str ky]) (by simp [Value.oneCell']) (by omega)
      have HRUN := Lib.hid hrun
      have HOW4 := Lib.hid hown4
      have HF4 := Lib.hid ((HF1.out.trans F2).trans' F4 (fun i hi e => by have := (hbk i e).1; omega))
      clear F2 F3 hrun hown4 F4 hk4 hbk BZ z0 z1 HOW1 HF1
      go_wp2_with (at_builtin; refine wpList_append_run (by rfl) (.tmp 12) (.tmp 15) 68 (by rfl) _ w4 (by exact HRUN.out) ?_)
      go_roundg (l.length - (j + 1))
      case measure => rw [HG.out]; omega
      case rel => exact ⟨j + 1, a', c', rfl, by omega, rfl, by go_num, by rw [HPK.out, List.map_append]; exact HOW4.out, HF4.out⟩
    · obtain rfl : j = l.length := by omega
      have hown := HOW.out
      rw [List.take_length] at hown
      have hpl : (partKeys l).length = l.length := by simp [partKeys]
      have hres : rdnKeyS l = Lib.join (Lib.compact (sortS (partKeys l))) [43] := rfl
      have HRES := Lib.hid hres
      have HS := Lib.hid (strSort_any (partKeys l) (by rw [hpl]; exact hown) (by omega))
      have hsl : (sortS (partKeys l)).length = l.length := by simp [sortS, hpl]
      have hbk := (Vals.of_own hown).2
      have HSL := Lib.hid hsl
      clear hpl hres hown HOW hsl
      generalize partKeys l = pk at *
      go_wp2_with fail
      refine HS.out.mono ?_
      rintro e w2 ⟨rfl, hown2, F2⟩
      have HF2 := Lib.hid (F.trans' F2 (fun i hi e => by have := (hbk i e).1; omega))
      have HC := Lib.hid (strCompact_any (sortS pk) hown2 (by rw [HSL.out]; omega))
      have hbk2 := (Vals.of_own hown2).2
      have hcl := Lib.compact_length_le (sortS pk)
      rw [HSL.out] at hcl
      clear F2 hown2 HS hbk
      generalize sortS pk = sk at *
      go_wp2_with fail
      refine HC.out.mono ?_
      rintro e w3 ⟨⟨v3, rfl, hown3⟩, F3⟩
      have HF3 := Lib.hid (HF2.out.trans' F3 (fun i hi e => by have := (hbk2 i e).1; omega))
      have hv3 := (Vals.of_own hown3).1
      have hjl2 := join_len 43 160001100 (Lib.compact sk) HKL.out
      have HJ := Lib.hid (strJoin_any (Lib.compact sk) 43 v3 w3 hv3 (by omega) (by
        have : (Lib.compact sk).length * (160001100 + 1) ≤ 100 * (160001100 + 1) := Nat.mul_le_mul_right _ (by omega)
        omega))
      obtain ⟨a3, m3, c3, rfl, -⟩ := own_shape hown3
      clear F3 hown3 HC hbk2 hv3 hjl2
      generalize Lib.compact sk = ck at *
      go_wp2_with fail
      refine HJ.out.mono ?_
      rintro e w4 ⟨rfl, F4⟩
      go_wp2_with fail
      go_ret
      exact ⟨by rw [HRES.out]; rfl, HF3.out.trans F4⟩
end Go.Proofs.YthamenngccaijaaGreatDoor

namespace Go.Q
open Go Go.RowKit
def nameKeyS (n : List (List Part)) : List UInt8 := Lib.join (n.map rdnKeyS) [47]
theorem steps_oids : ∀ (l : List Part) (last : Option (List UInt8)), (stepsS last l).isSome = true → ∀ p ∈ l, oidOk p.o = true
  | [], _, _, p, hp => by cases hp
  | q :: t, last, h, p, hp => by
    simp only [stepsS] at h
    cases hq : attrS q.o q.b with
    | none => rw [hq] at h; cases h
    | some x =>
      rw [hq] at h
      have hqo : oidOk q.o = true := by
        unfold attrS at hq
        split at hq
        · rename_i hh; rw [Bool.and_eq_true] at hh; exact hh.1
        · cases hq
      have ht : (stepsS (some x) t).isSome = true := by
        cases last with
        | none => simpa using h
        | some y =>
          by_cases hc : 0 ≤ cmpS y x
          · simp [hc] at h
          · simpa [hc] using h
      rcases List.mem_cons.1 hp with rfl | hm
      · exact hqo
      · exact steps_oids t (some x) ht p hm
theorem rdn_oids {l : List Part} (h : (rdnS l).isSome = true) : l.length ≤ 16 ∧ ∀ p ∈ l, oidOk p.o = true := by
  unfold rdnS at h
  split at h
  · cases h
  · exact ⟨by omega, steps_oids l none h⟩
theorem rdnKey_len {l : List Part} (hf : fewB l) (h : (rdnS l).isSome = true) : (rdnKeyS l).length ≤ 2560017616 := by
  obtain ⟨h1, h2⟩ := rdn_oids h
  have hcl := Lib.compact_length_le (sortS (partKeys l))
  have hsl : (sortS (partKeys l)).length = l.length := by simp [sortS, partKeys]
  rw [hsl] at hcl
  have := join_len 43 160001100 (Lib.compact (sortS (partKeys l))) (fun k hk => by
    have h3 := sort_mem (compact_mem hk)
    obtain ⟨p, hp, rfl⟩ := List.mem_map.1 h3
    exact attrKey_len (h2 p hp) (hf p hp))
  unfold rdnKeyS
  have h4 : (Lib.compact (sortS (partKeys l))).length * (160001100 + 1) ≤ 16 * (160001100 + 1) := Nat.mul_le_mul_right _ (by omega)
  omega
theorem name_rdns {n : List (List Part)} (h : nameOk n = true) : n.length ≤ 64 ∧ ∀ r ∈ n, (rdnS r).isSome = true := by
  unfold nameOk at h
  rw [Bool.and_eq_true] at h
  exact ⟨of_decide_eq_true h.1, fun r hr => List.all_eq_true.1 h.2 r hr⟩
def nameSameS (a b : List (List Part)) : Bool := nameOk a && (nameOk b && decide (nameKeyS a = nameKeyS b))
end Go.Q
namespace Go.Proofs.YthamenngccaijaaGreatDoor
open Go Go.RowKit Go.Q
set_option maxRecDepth 20000 in
set_option maxHeartbeats 2000000 in
theorem nameKey_any (v : Value) (n : List (List Part)) (w : World) (h : NameAt w v n) (hf : ∀ r ∈ n, fewB r) (hok : nameOk n = true) (hE : Env w) :
    Calls Tryz.prog 118 #[v] w fun e w' => e = .returned (.tuple #[str (nameKeyS n), .int .i64 0]) ∧ Fr (fun _ => False) w w' := by
  have H := Lib.hid h
  have HR := right_any v n w h hf
  rw [hok] at HR
  have HRI := Lib.hid HR
  obtain ⟨hn64, hrd⟩ := name_rdns hok
  have HRD := Lib.hid hrd
  have HE := Lib.hid hE
  obtain ⟨a, cap, rfl, hc, hm, -⟩ := h
  have hkl : ∀ k ∈ n.map rdnKeyS, k.length ≤ 2560017616 := fun k hk => by
    obtain ⟨r, hr, rfl⟩ := List.mem_map.1 hk
    exact rdnKey_len (hf r hr) (hrd r hr)
  have hjl := join_len 47 2560017616 (n.map rdnKeyS) hkl
  rw [List.length_map] at hjl
  have hjl2 : n.length * (2560017616 + 1) ≤ 64 * (2560017616 + 1) := Nat.mul_le_mul_right _ hn64
  have hjl3 : (Lib.join (n.map rdnKeyS) [47]).length ≤ 100000000000000 := by omega
  have HJL := Lib.hid hjl3
  clear hE hkl hjl hjl2 hjl3 hok HR hrd
  go_enter Tryz.func118, Tryz.ntmps118
  go_wp2_with fail
  refine HRI.out.mono ?_
  rintro e w0 ⟨rfl, F0⟩
  have HF0 := Lib.hid F0
  clear F0 HRI
  go_wp2_with fail
  go_loopg [4, 12] n.length (fun g u i wr => ∃ (j : Nat) (au : Option Addr) (cu : Nat), g = n.length - j ∧ j ≤ n.length ∧ u = .slice au j cu ∧ i = .int .i64 j ∧ wr.ownsRow w0.heap.size 9 1 (.slice au j cu) j (((n.take j).map rdnKeyS).map str) ∧ Fr (fun _ => False) w0 wr)
  case atStart => exact ⟨0, none, 0, rfl, Nat.zero_le _, rfl, rfl, ⟨rfl, .inl ⟨rfl, rfl⟩⟩, Fr.refl _⟩
  case round =>
    obtain ⟨j, au, cu, hg, hj, rfl, rfl, hown, F⟩ := hrel
    have HG := Lib.hid hg
    have HOW := Lib.hid hown
    have HF := Lib.hid F
    have HFF := Lib.hid (HF0.out.trans F)
    clear hg hown
    by_cases hjl : j < n.length
    · obtain ⟨a0, cap0, he, _, _, hx⟩ := H.out.old HFF.out
      simp only [Value.slice.injEq, true_and] at he
      obtain ⟨rfl, rfl⟩ := he
      obtain ⟨b, off, rfl, hy⟩ := hx (by omega)
      obtain ⟨r, hr⟩ : ∃ r, n[j]? = some r := ⟨_, List.getElem?_eq_getElem hjl⟩
      obtain ⟨x, e1, hA⟩ := hy j r hr
      have hmem := List.mem_of_getElem? hr
      have hri := HRD.out r hmem
      obtain ⟨hr16, hro⟩ := rdn_oids hri
      have HK := Lib.hid (rdnKey_any x r wr hA (hf r hmem) hro (by omega) (HE.out.old HFF.out))
      have hpk : (n.take (j + 1)).map rdnKeyS = (n.take j).map rdnKeyS ++ [rdnKeyS r] := by
        rw [List.take_add_one, hr]
        simp
      have HPK := Lib.hid hpk
      have r1 : (0 : Int) ≤ (j : Int) := by omega
      have r2 : (j : Int) < (n.length : Int) := by omega
      clear hx hy hr hA hmem hri hro F hpk
      generalize rdnKeyS r = ky at *
      go_wp2_with fail
      refine HK.out.mono ?_
      rintro e w2 ⟨rfl, F2⟩
      have F3 : Fr (fun _ => False) w2 (w2.alloc (.cells #[str ky] 9)) := (Fr.refl w2).alloc _
      have hs1 := HF.out.size
      have hs2 := F2.size
      have hbk := (Vals.of_own HOW.out).2
      obtain ⟨a', c', w4, hrun, hown4, F4, hk4⟩ := add_gen Tryz.underlying68 info9 rfl (by decide) (by decide) (ownsRow_fr HOW.out F2 (fun _ _ h => h)) (by omega) F3 w2.heap.size [str ky] rfl (Blk.new w2 9 #[str ky]) (by simp [Value.oneCell']) (by omega)
      have HRUN := Lib.hid hrun
      have HOW4 := Lib.hid hown4
      have HF4 := Lib.hid ((HF.out.trans F2).trans' F4 (fun i hi e => by have := (hbk i e).1; omega))
      clear F2 F3 hrun hown4 F4 hk4 hbk HOW HF HK
      go_wp2_with (at_builtin; refine wpList_append_run (by rfl) (.tmp 16) (.tmp 19) 68 (by rfl) _ w4 (by exact HRUN.out) ?_)
      go_roundg (n.length - (j + 1))
      case measure => rw [HG.out]; omega
      case rel => exact ⟨j + 1, a', c', rfl, by omega, rfl, by go_num, by rw [HPK.out, List.map_append]; exact HOW4.out, HF4.out⟩
    · obtain rfl : j = n.length := by omega
      have hown := HOW.out
      rw [List.take_length] at hown
      have hv3 := (Vals.of_own hown).1
      have HJ := Lib.hid (strJoin_any (n.map rdnKeyS) 47 _ wr hv3 (by rw [List.length_map]; omega) HJL.out)
      have hres : nameKeyS n = Lib.join (n.map rdnKeyS) [47] := rfl
      have HRES := Lib.hid hres
      clear hown hv3 hres HOW
      go_wp2_with fail
      refine HJ.out.mono ?_
      rintro e w4 ⟨rfl, F4⟩
      go_wp2_with fail
      refine bodyPost_ret (v := .tuple #[str (Lib.join (n.map rdnKeyS) [47]), .int .i64 0]) (by simp [results, Tryz.results118, go_sem]) rfl ⟨by rw [HRES.out], HFF.out.trans F4⟩
def keyOut (n : List (List Part)) : Value := if nameOk n = true then .tuple #[str (nameKeyS n), .int .i64 0] else .tuple #[str [], .int .i64 1]
end Go.Proofs.YthamenngccaijaaGreatDoor

namespace Go.Q
open Go Go.RowKit
def partTextS (ks : List Int) (p : Part) : Option (List UInt8) :=
  if ks ≠ [] ∧ p.o ≠ ks then none else match textReadS p.b with
    | .ok (k, t, _) => some (utf8S k t)
    | .error _ => none
def textsS (n : List (List Part)) (ks : List Int) : List (List UInt8) := if nameOk n = true then n.flatten.filterMap (partTextS ks) else []
end Go.Q
namespace Go.Proofs.YthamenngccaijaaGreatDoor
open Go Go.RowKit Go.Q
end Go.Proofs.YthamenngccaijaaGreatDoor

namespace Go.Proofs.YthamenngccaijaaGreatDoor
open Go Go.RowKit Go.Q
end Go.Proofs.YthamenngccaijaaGreatDoor

namespace Go.Proofs.YthamenngccaijaaGreatDoor
open Go Go.RowKit Go.Q
set_option linter.unusedSimpArgs false
def rWholeOut (w w' : World) (o : List Int) (b : List UInt8) (e : Ending) : Prop :=
  match attrS o b with
  | none => e = .returned (.tuple #[.slice none 0 0, .bool false])
  | some x => ∃ v, e = .returned (.tuple #[v, .bool true]) ∧ w'.ownsRow w.heap.size 5 1 v x.length (Lib.byteCells x)
end Go.Proofs.YthamenngccaijaaGreatDoor

namespace Go.Q
open Go Go.RowKit
theorem cmpS_drop {a b : List UInt8} {j : Nat} {x y : UInt8} (hx : a[j]? = some x) (hy : b[j]? = some y) : cmpS (a.drop j) (b.drop j) = if x.toNat < y.toNat then -1 else if y.toNat < x.toNat then 1 else cmpS (a.drop (j + 1)) (b.drop (j + 1)) := by
  have h1 : a.drop j = x :: a.drop (j + 1) := by
    obtain ⟨h, rfl⟩ := List.getElem?_eq_some_iff.1 hx
    exact List.drop_eq_getElem_cons h
  have h2 : b.drop j = y :: b.drop (j + 1) := by
    obtain ⟨h, rfl⟩ := List.getElem?_eq_some_iff.1 hy
    exact List.drop_eq_getElem_cons h
  rw [h1, h2]
  simp only [cmpS]
  by_cases h : x = y
  · subst h; simp
  · rw [if_neg h]
    by_cases h3 : x.toNat < y.toNat
    · rw [if_pos h3, if_pos h3]
    · rw [if_neg h3, if_neg h3, if_pos]
      rcases Nat.lt_or_ge y.toNat x.toNat with h4 | h4
      · exact h4
      · exact absurd (UInt8.toNat_inj.1 (by omega)) h
theorem cmpS_zero : ∀ (s t : List UInt8), cmpS s t = 0 ↔ s = t
  | [], [] => by simp [cmpS]
  | [], _ :: _ => by simp [cmpS]
  | _ :: _, [] => by simp [cmpS]
  | x :: s, y :: t => by
    have ih := cmpS_zero s t
    unfold cmpS
    split
    · rename_i h; subst h; rw [ih]; simp
    · rename_i h
      split <;> simp [h]
end Go.Q
namespace Go.Proofs.YthamenngccaijaaGreatDoor
open Go Go.RowKit Go.Q
set_option maxRecDepth 20000 in
set_option maxHeartbeats 1000000 in
theorem r01Compare_any (v u : Value) (o p : List UInt8) (w : World) (h : Bytes w v o) (hu : Bytes w u p) :
    Calls Tryz.prog 65 #[v, u] w fun e w' => e = .returned (.int .i64 (cmpS o p)) ∧ Fr (fun _ => False) w w' := by
  obtain ⟨a, cap, rfl, hc1, hm1, hx⟩ := Vals.form h
  obtain ⟨b, cbp, rfl, hc2, hm2, hy⟩ := Vals.form hu
  have HX := Lib.hid hx
  have HY := Lib.hid hy
  unfold maxLen at hm1 hm2
  clear h hu hx hy
  go_enter Tryz.func65, Tryz.ntmps65
  go_wp2_with fail
  go_loopg [5] (o.length + p.length) (fun g i wr => ∃ j : Nat, g = o.length + p.length - j ∧ j ≤ o.length ∧ j ≤ p.length ∧ i = .int .i64 j ∧ cmpS o p = cmpS (o.drop j) (p.drop j) ∧ Fr (fun _ => False) w wr)
  case atStart => exact ⟨0, rfl, Nat.zero_le _, Nat.zero_le _, rfl, rfl, Fr.refl _⟩
  case round =>
    obtain ⟨j, hg, hj, hjp, rfl, hE, F⟩ := hrel
    have HG := Lib.hid hg
    have HE := Lib.hid hE
    have HF := Lib.hid F
    clear hg hE
    by_cases hjl : j < o.length
    · obtain ⟨ba, oa, rfl, ha⟩ := HX.out (by omega)
      obtain ⟨x, hxj⟩ : ∃ x, o[j]? = some x := ⟨_, List.getElem?_eq_getElem hjl⟩
      have e1 := F.cell (ha j x hxj) (fun h => h)
      have r1 : (0 : Int) ≤ (j : Int) := by omega
      have r2 : (j : Int) < (o.length : Int) := by omega
      have r5 : decide ((o.length : Int) ≤ (j : Int)) = false := decide_eq_false (by omega)
      have r5N : decide (o.length ≤ j) = false := decide_eq_false (by omega)
      have r5' : decide ((j : Int) < (o.length : Int)) = true := decide_eq_true (by omega)
      have r5'N : decide (j < o.length) = true := decide_eq_true (by omega)
      by_cases hjl2 : j < p.length
      · obtain ⟨bb, ob, rfl, hb⟩ := HY.out (by omega)
        obtain ⟨y, hyj⟩ : ∃ y, p[j]? = some y := ⟨_, List.getElem?_eq_getElem hjl2⟩
        have e2 := F.cell (hb j y hyj) (fun h => h)
        have r4 : (j : Int) < (p.length : Int) := by omega
        have r3 : decide ((p.length : Int) ≤ (j : Int)) = false := decide_eq_false (by omega)
        have r3N : decide (p.length ≤ j) = false := decide_eq_false (by omega)
        have r4' : decide ((j : Int) < (p.length : Int)) = true := decide_eq_true (by omega)
        have r4'N : decide (j < p.length) = true := decide_eq_true (by omega)
        have hcd := Lib.hid (cmpS_drop hxj hyj)
        clear ha hb hxj hyj F
        generalize x.toNat = x at *
        generalize y.toNat = y at *
        by_cases h1 : x < y
        · have hres : cmpS o p = -1 := by rw [HE.out, hcd.out, if_pos h1]
          have HRES := Lib.hid hres
          have q1 : decide ((x : Int) < (y : Int)) = true := decide_eq_true (by omega)
          have q1N : decide (x < y) = true := decide_eq_true h1
          clear hres
          go_wp2_with fail
          go_quiet (fail)
          go_wp2_with fail
          go_ret
          refine ⟨by rw [HRES.out]; rfl, ?_⟩; (first | with_reducible exact HF.out | with_reducible exact Fr.drewN HF.out _ | with_reducible exact Fr.drewN (Fr.drewN HF.out _) _ | with_reducible exact Fr.drewN (Fr.drewN (Fr.drewN HF.out _) _) _)
        · have q1 : decide ((x : Int) < (y : Int)) = false := decide_eq_false (by omega)
          have q1N : decide (x < y) = false := decide_eq_false h1
          by_cases h2 : y < x
          · have hres : cmpS o p = 1 := by rw [HE.out, hcd.out, if_neg h1, if_pos h2]
            have HRES := Lib.hid hres
            have q2 : decide ((y : Int) < (x : Int)) = true := decide_eq_true (by omega)
            have q2N : decide (y < x) = true := decide_eq_true h2
            clear hres
            go_wp2_with fail
            go_quiet (fail)
            go_wp2_with fail
            go_quiet (fail)
            go_wp2_with fail
            go_ret
            refine ⟨by rw [HRES.out]; rfl, ?_⟩; (first | with_reducible exact HF.out | with_reducible exact Fr.drewN HF.out _ | with_reducible exact Fr.drewN (Fr.drewN HF.out _) _ | with_reducible exact Fr.drewN (Fr.drewN (Fr.drewN HF.out _) _) _)
          · have hres : cmpS o p = cmpS (o.drop (j + 1)) (p.drop (j + 1)) := by rw [HE.out, hcd.out, if_neg h1, if_neg h2]
            have HRES := Lib.hid hres
            have q2 : decide ((y : Int) < (x : Int)) = false := decide_eq_false (by omega)
            have q2N : decide (y < x) = false := decide_eq_false h2
            clear hres
            go_wp2_with fail
            go_quiet (fail)
            go_wp2_with fail
            go_quiet (fail)
            go_wp2_with fail
            go_roundg (o.length + p.length - (j + 1))
            case measure => rw [HG.out]; omega
            case rel => refine ⟨j + 1, rfl, by omega, by omega, by go_num, HRES.out, ?_⟩; (first | with_reducible exact HF.out | with_reducible exact Fr.drewN HF.out _ | with_reducible exact Fr.drewN (Fr.drewN HF.out _) _ | with_reducible exact Fr.drewN (Fr.drewN (Fr.drewN HF.out _) _) _)
      · have r3 : decide ((p.length : Int) ≤ (j : Int)) = true := decide_eq_true (by omega)
        have r3N : decide (p.length ≤ j) = true := decide_eq_true (by omega)
        have r4 : decide ((j : Int) < (p.length : Int)) = false := decide_eq_false (by omega)
        have r4N : decide (j < p.length) = false := decide_eq_false (by omega)
        have hres : cmpS o p = 1 := by
          have h1 : o.drop j = x :: o.drop (j + 1) := by
            obtain ⟨h, rfl⟩ := List.getElem?_eq_some_iff.1 hxj
            exact List.drop_eq_getElem_cons h
          have h2 : p.drop j = [] := List.drop_eq_nil_of_le (by omega)
          rw [HE.out, h1, h2]
          rfl
        have HRES := Lib.hid hres
        clear hres ha hxj F
        go_wp2_with fail
        go_quiet (fail)
        go_wp2_with fail
        go_quiet (fail)
        go_wp2_with fail
        go_ret
        refine ⟨by rw [HRES.out]; rfl, ?_⟩; (first | with_reducible exact HF.out | with_reducible exact Fr.drewN HF.out _ | with_reducible exact Fr.drewN (Fr.drewN HF.out _) _ | with_reducible exact Fr.drewN (Fr.drewN (Fr.drewN HF.out _) _) _)
    · obtain rfl : j = o.length := by omega
      have h1 : o.drop o.length = [] := List.drop_length
      have r5 : decide ((o.length : Int) ≤ (o.length : Int)) = true := decide_eq_true (by omega)
      have r5N : decide (o.length ≤ o.length) = true := decide_eq_true (by omega)
      by_cases hlt : o.length < p.length
      · have r3 : (o.length : Int) < (p.length : Int) := by omega
        have r3N : decide (o.length < p.length) = true := decide_eq_true hlt
        have hres : cmpS o p = -1 := by
          rw [HE.out, h1]
          have : p.drop o.length ≠ [] := fun e => by have := drop_nil e; omega
          cases hd : p.drop o.length with
          | nil => exact absurd hd this
          | cons y t => rfl
        have HRES := Lib.hid hres
        clear hres h1 F
        go_wp2_with fail
        go_quiet (fail)
        go_wp2_with fail
        go_ret
        refine ⟨by rw [HRES.out]; rfl, ?_⟩; (first | with_reducible exact HF.out | with_reducible exact Fr.drewN HF.out _ | with_reducible exact Fr.drewN (Fr.drewN HF.out _) _ | with_reducible exact Fr.drewN (Fr.drewN (Fr.drewN HF.out _) _) _)
      · have r3 : ¬ (o.length : Int) < (p.length : Int) := by omega
        have r3N : decide (o.length < p.length) = false := decide_eq_false hlt
        have hres : cmpS o p = 0 := by
          have h2 : p.drop o.length = [] := List.drop_eq_nil_of_le (by omega)
          rw [HE.out, h1, h2]
          rfl
        have HRES := Lib.hid hres
        clear hres h1
        go_wp2_with fail
        go_ret
        exact ⟨by rw [HRES.out]; rfl, F⟩
theorem r01Same_any (v u : Value) (o p : List UInt8) (w : World) (h : Bytes w v o) (hu : Bytes w u p) :
    Calls Tryz.prog 15 #[v, u] w fun e w' => e = .returned (.bool (decide (o = p))) ∧ Fr (fun _ => False) w w' := by
  have H := Lib.hid (r01Compare_any v u o p w h hu)
  clear h hu
  have hq : (cmpS o p == 0) = decide (o = p) := by
    rw [Bool.eq_iff_iff]
    simp [cmpS_zero]
  have HQ := Lib.hid hq
  clear hq
  generalize cmpS o p = c at *
  go_enter Tryz.func15, Tryz.ntmps15
  go_wp2_with fail
  refine H.out.mono ?_
  rintro e w' ⟨rfl, F⟩
  go_wp2_with fail
  go_ret
  exact ⟨by rw [← HQ.out]; rfl, F⟩
end Go.Proofs.YthamenngccaijaaGreatDoor

namespace Go.Proofs.YthamenngccaijaaGreatDoor
open Go Go.RowKit Go.Q
set_option linter.unusedSimpArgs false
end Go.Proofs.YthamenngccaijaaGreatDoor
