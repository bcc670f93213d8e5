/-
  Merged by program: XRd XNsRd XR02R XR02L XR02D XR02S XR04S XNRdn XNRight XRdSpec XNStr.
-/
import Derived.Test.YthjcoolefboodaaGreatDoorI0a
import Derived.Test.YthjcoolefboodaaGreatDoorI0d
import Derived.ProofKit
import Derived.Deep.Slices
import Derived.OpenShut
import Derived.Test.YthjcoolefboodaaGreatDoorI0b
import Derived.Lib.SliceRun
import Derived.Laws.IdiomStrings
import Derived.Shelf.Bytes.SlSmallAll
import Derived.Lib.ConvBytes
namespace Go.Q
open Go Go.RowKit
theorem two_of {α : Type} {l : List α} (h : l.length = 2) : ∃ a b, l = [a, b] := by
  match l, h with
  | [a, b], _ => exact ⟨a, b, rfl⟩
theorem list_of {α : Type} {p : Nat → α → Prop} : ∀ n, (∀ i, i < n → ∃ a, p i a) → ∃ l : List α, l.length = n ∧ ∀ i a, l[i]? = some a → p i a
  | 0, _ => ⟨[], rfl, fun i a h => by simp at h⟩
  | n + 1, h => by
    obtain ⟨l, hl, hp⟩ := list_of n (fun i hi => h i (by omega))
    obtain ⟨a, ha⟩ := h n (by omega)
    refine ⟨l ++ [a], by simp [hl], fun i b hb => ?_⟩
    rcases Nat.lt_or_ge i l.length with hi | hi
    · rw [List.getElem?_append_left hi] at hb
      exact hp i b hb
    · rw [List.getElem?_append_right hi] at hb
      have h0 : i - l.length = 0 := by
        have := (List.getElem?_eq_some_iff.1 hb).1
        simp at this
        omega
      rw [h0] at hb
      simp only [List.getElem?_cons_zero, Option.some.injEq] at hb
      subst hb
      obtain rfl : i = n := by omega
      exact ha
end Go.Q
namespace Go.Proofs.YthjcoolefboodaaGreatDoor
open Go Go.RowKit Go.Q Go.ChangeShapes Go.WideShapes Go.ChangeAt
section
variable {H : Type} {enc : TypeId × Value → H} {P : Program} {w : World} {base fuel : Nat} {spare : Nat → Bool} {held : Bool} {cs : List Value} {x : DataW H × List MemPlace}
theorem rd_slice {α : Type} {t e : TypeId} {c : Nat} (ht : P.underlying t = some (.slice e)) (hc : P.cellsOf e = c) (hc0 : 0 < c) (R : α → List Value → Prop)
    (hR : ∀ n cs x, DataW.trod enc P w base spare held n e cs = some x → cs.length = c → ∃ a, R a cs) (h : DataW.trod enc P w base spare held fuel t cs = some x) :
    ∃ (a : Option Addr) (cap : Nat) (l : List α), cs = [.slice a l.length cap] ∧ l.length ≤ cap ∧ cap ≤ maxLen ∧ (0 < l.length → ∃ b o, a = some ⟨b, o, none⟩ ∧ ∀ i u, l[i]? = some u → ∃ ds, ds.length = c ∧ R u ds ∧ ∀ j v, ds[j]? = some v → w.cell? ⟨b, o + c * i + j, none⟩ = some v) := by
  rcases Go.Deep.open_slice ht h with ⟨rfl, _⟩ | ⟨a, len, cap, m, n, D, Pl, rfl, _, hl, hm, hmm, _, hx⟩
  · exact ⟨none, 0, [], rfl, Nat.le_refl _, Nat.zero_le _, fun h => absurd h (Nat.lt_irrefl _)⟩
  · have hlm : len ≤ m := by rw [hmm]; split <;> omega
    obtain ⟨l, hll, hp⟩ := list_of (p := fun i u => ∃ ds : List Value, ds.length = c ∧ R u ds ∧ ∀ j v, ds[j]? = some v → w.cell? ((a.add (i * c)).add j) = some v) len (fun i hi => by
      obtain ⟨ds, h1, h2⟩ := hx i (by omega)
      obtain ⟨_, h3, h4⟩ := World.cells?_some h1
      rw [hc] at h1 h3 h4
      obtain ⟨u, hu⟩ := hR n ds _ h2 h3
      refine ⟨u, ds, h3, hu, fun j v hj => ?_⟩
      have hjl : j < c := by rw [← h3]; exact (List.getElem?_eq_some_iff.1 hj).1
      have := h4 j hjl
      rw [this, ← hj])
    refine ⟨some a, cap, l, by rw [hll], by omega, hm, fun h0 => ?_⟩
    obtain ⟨u, hu⟩ : ∃ u, l[0]? = some u := ⟨_, List.getElem?_eq_getElem h0⟩
    obtain ⟨ds, hd1, _, hd2⟩ := hp 0 u hu
    obtain ⟨v, hv⟩ : ∃ v, ds[0]? = some v := ⟨_, List.getElem?_eq_getElem (by omega)⟩
    have sp : a.spot = none := by
      have := World.cell?_spot (hd2 0 v hv)
      simpa [Addr.add] using this
    obtain ⟨b, o, spt⟩ := a
    simp only at sp
    subst sp
    refine ⟨b, o, rfl, fun i u hu => ?_⟩
    obtain ⟨ds, hd1, hd2, hd3⟩ := hp i u hu
    refine ⟨ds, hd1, hd2, fun j v hj => ?_⟩
    have := hd3 j v hj
    rw [show ((⟨b, o, none⟩ : Addr).add (i * c)).add j = ⟨b, o + c * i + j, none⟩ from by unfold Addr.add; split <;> split <;> simp_all [Nat.mul_comm]] at this
    exact this
end
section
variable {H : Type} {enc : TypeId × Value → H} {w : World} {base fuel : Nat} {spare : Nat → Bool} {held : Bool} {cs : List Value} {x : DataW H × List MemPlace}
theorem rc3 : Tryz.prog.cellsOf 3 = 1 := by kernel_rfl
theorem rc5 : Tryz.prog.cellsOf 5 = 1 := by kernel_rfl
theorem rc26 : Tryz.prog.cellsOf 26 = 1 := by kernel_rfl
theorem rc22 : Tryz.prog.cellsOf 22 = 1 := by kernel_rfl
theorem rd_ints (h : DataW.trod enc Tryz.prog w base spare held fuel 26 cs = some x) : ∃ v l, cs = [v] ∧ Ints w v l := by
  obtain ⟨a, cap, l, rfl, h1, h2, h3⟩ := rd_slice Tryz.underlying26 rc3 (by decide) (fun (n : Int) ds => ds = [.int .i64 n]) (fun n ds y hy _ => by
    obtain ⟨k, e, -, -⟩ := DataW.trod_int Tryz.underlying3 hy
    exact ⟨k, e⟩) h
  refine ⟨_, l, rfl, a, cap, by rw [intCells_len], by rw [intCells_len]; exact h1, h2, fun h0 => ?_⟩
  rw [intCells_len] at h0
  obtain ⟨b, o, rfl, hy⟩ := h3 h0
  refine ⟨b, o, rfl, fun i u hu => ?_⟩
  unfold intCells at hu
  rw [List.getElem?_map] at hu
  cases hl : l[i]? with
  | none => rw [hl] at hu; cases hu
  | some n =>
    rw [hl] at hu
    simp only [Option.map_some, Option.some.injEq] at hu
    obtain ⟨ds, _, rfl, hj⟩ := hy i n hl
    have := hj 0 _ rfl
    simp only [Nat.one_mul, Nat.add_zero] at this
    rw [this, hu]
theorem rd_bytes (h : DataW.trod enc Tryz.prog w base spare held fuel 22 cs = some x) : ∃ v l, cs = [v] ∧ Bytes w v l := by
  obtain ⟨a, cap, l, rfl, h1, h2, h3⟩ := rd_slice Tryz.underlying22 rc5 (by decide) (fun (n : UInt8) ds => ds = [.int .u8 n.toNat]) (fun n ds y hy _ => by
    obtain ⟨k, e, -, hw⟩ := DataW.trod_int Tryz.underlying5 hy
    have hb := bounds_u8 hw
    refine ⟨UInt8.ofNat k.toNat, ?_⟩
    rw [e, Go.Q.u8 k.toNat (by omega), show ((k.toNat : Nat) : Int) = k from by omega]) h
  refine ⟨_, l, rfl, a, cap, by rw [byteCells_len], by rw [byteCells_len]; exact h1, h2, fun h0 => ?_⟩
  rw [byteCells_len] at h0
  obtain ⟨b, o, rfl, hy⟩ := h3 h0
  refine ⟨b, o, rfl, fun i u hu => ?_⟩
  rw [byteCells_get] at hu
  cases hl : l[i]? with
  | none => rw [hl] at hu; cases hu
  | some n =>
    rw [hl] at hu
    simp only [Option.map_some, Option.some.injEq] at hu
    obtain ⟨ds, _, rfl, hj⟩ := hy i n hl
    have := hj 0 _ rfl
    simp only [Nat.one_mul, Nat.add_zero] at this
    rw [this, hu]
end
end Go.Proofs.YthjcoolefboodaaGreatDoor

namespace Go.Proofs.YthjcoolefboodaaGreatDoor
open Go Go.RowKit Go.Q Go.ChangeShapes Go.WideShapes Go.ChangeAt
section
variable {H : Type} {enc : TypeId × Value → H} {w : World} {base fuel : Nat} {spare : Nat → Bool} {held : Bool} {cs : List Value} {x : DataW H × List MemPlace}
theorem rc106 : Tryz.prog.cellsOf 106 = 2 := by kernel_rfl
theorem rc73 : Tryz.prog.cellsOf 73 = 1 := by kernel_rfl
theorem rd_attr (h : DataW.trod enc Tryz.prog w base spare held fuel 106 cs = some x) (hl : cs.length = 2) : ∃ p : Part, ∃ v u, cs = [v, u] ∧ Ints w v p.o ∧ Bytes w u p.b := by
  obtain ⟨y0, y1, n, _, -, h0, h1⟩ := Go.ChangeShapes.trod_struct2 Tryz.underlying106 h
  obtain ⟨c0, c1, rfl⟩ := two_of hl
  have g0 : DataW.trod enc Tryz.prog w base spare held n 26 [c0] = some y0 := by rw [← show ([c0, c1].drop 0).take (Tryz.prog.cellsOf 26) = [c0] from by rw [rc26]; rfl]; exact h0
  have g1 : DataW.trod enc Tryz.prog w base spare held n 22 [c1] = some y1 := by rw [← show ([c0, c1].drop 1).take (Tryz.prog.cellsOf 22) = [c1] from by rw [rc22]; rfl]; exact h1
  obtain ⟨v, o, e0, ho⟩ := rd_ints g0
  obtain ⟨u, b, e1, hb⟩ := rd_bytes g1
  simp only [List.cons.injEq, and_true] at e0 e1
  subst e0; subst e1
  exact ⟨⟨o, b⟩, c0, c1, rfl, ho, hb⟩
theorem rd_attrs (h : DataW.trod enc Tryz.prog w base spare held fuel 73 cs = some x) : ∃ v l, cs = [v] ∧ Attrs w v l := by
  obtain ⟨a, cap, l, rfl, h1, h2, h3⟩ := rd_slice Tryz.underlying73 rc106 (by decide) (fun (p : Part) ds => ∃ v u, ds = [v, u] ∧ Ints w v p.o ∧ Bytes w u p.b) (fun n ds y hy hl => rd_attr hy hl) h
  refine ⟨_, l, rfl, a, cap, rfl, h1, h2, fun h0 => ?_⟩
  obtain ⟨b, o, rfl, hy⟩ := h3 h0
  refine ⟨b, o, rfl, fun i p hp => ?_⟩
  obtain ⟨ds, _, ⟨v, u, rfl, hv, hu⟩, hj⟩ := hy i p hp
  exact ⟨v, u, hj 0 _ rfl, hj 1 _ rfl, hv, hu⟩
theorem rd_name (h : DataW.trod enc Tryz.prog w base spare held fuel 25 cs = some x) : ∃ v n, cs = [v] ∧ NameAt w v n := by
  obtain ⟨a, cap, l, rfl, h1, h2, h3⟩ := rd_slice Tryz.underlying25 rc73 (by decide) (fun (r : List Part) ds => ∃ v, ds = [v] ∧ Attrs w v r) (fun n ds y hy _ => by
    obtain ⟨v, l, e, hl⟩ := rd_attrs hy
    exact ⟨l, v, e, hl⟩) h
  refine ⟨_, l, rfl, a, cap, rfl, h1, h2, fun h0 => ?_⟩
  obtain ⟨b, o, rfl, hy⟩ := h3 h0
  refine ⟨b, o, rfl, fun i r hr => ?_⟩
  obtain ⟨ds, _, ⟨v, rfl, hv⟩, hj⟩ := hy i r hr
  have := hj 0 _ rfl
  rw [Nat.one_mul, Nat.add_zero] at this
  exact ⟨v, this, hv⟩
end
end Go.Proofs.YthjcoolefboodaaGreatDoor

namespace Go.Proofs.YthjcoolefboodaaGreatDoor
open Go Go.RowKit Go.Q
set_option linter.unusedSimpArgs false
def rTagV (p : Nat) : Except Int (Tag × Nat) → Value
  | .error e => .tuple #[tagV ⟨0, 0, false⟩, .int .i64 p, .int .i64 e]
  | .ok (t, k) => .tuple #[tagV t, .int .i64 ((p + k : Nat) : Int), .int .i64 0]
theorem numS_next {i n : Nat} {l : List UInt8} {x : UInt8} {t : List UInt8} (h : l = x :: t) : numS i n l = if (i = 0 ∧ x.toNat = 128) ∨ i = 3 then .error 4 else if x.toNat < 128 then (if n * 128 + x.toNat % 128 < 31 then .error 4 else .ok (n * 128 + x.toNat % 128, i + 1)) else numS (i + 1) (n * 128 + x.toNat % 128) t := by
  rw [h]
  simp only [numS]
theorem drop_get {α : Type} {l : List α} {j : Nat} {x : α} (hx : l[j]? = some x) : l.drop j = x :: l.drop (j + 1) := by
  obtain ⟨h, rfl⟩ := List.getElem?_eq_some_iff.1 hx
  exact List.drop_eq_getElem_cons h
set_option maxRecDepth 20000 in
set_option maxHeartbeats 2000000 in
theorem r02ReadTag_any (v : Value) (l : List UInt8) (p : Nat) (w : World) (h : Bytes w v l) (hp : p ≤ l.length) (hlm : l.length ≤ 1099511627776) :
    Calls Tryz.prog 151 #[v, .int .i64 p] w fun e w' => e = .returned (rTagV p (readTagS (l.drop p))) ∧ Fr (fun _ => False) w w' := by
  obtain ⟨a, cap, rfl, -, -, hx⟩ := h.form
  obtain ⟨z, hz⟩ : ∃ z, z = w.heap.size := ⟨_, rfl⟩
  have BZ := Blk.new w 152 #[.int .i64 0, .int .i64 0, .bool false]
  have F0 : Fr (fun _ => False) w (w.alloc (.cells #[.int .i64 0, .int .i64 0, .bool false] 152)) := (Fr.refl w).alloc _
  rw [← hz] at BZ
  have hzw : ∀ k, k < w.heap.size → k = z → False := fun k hk e => by omega
  have HZ := Lib.hid hz
  have HX := Lib.hid hx
  have HF0 := Lib.hid F0
  have HZW := Lib.hid hzw
  clear h hx hz F0 hzw
  rcases Nat.lt_or_ge p l.length with hpl | hpl
  case inr =>
    obtain rfl : p = l.length := by omega
    have hn : readTagS (l.drop l.length) = .error 3 := by rw [List.drop_length]; rfl
    have HN := Lib.hid hn
    clear hn
    go_enter Tryz.func151, Tryz.ntmps151
    go_upto_region 1 with fail
    rw [← HZ.out]
    generalize (w.alloc (.cells #[.int .i64 0, .int .i64 0, .bool false] 152)) = w0 at *
    have SZ := BZ.cell
    have ZZ := BZ.frozen
    go_wp2_with fail
    obtain ⟨B5, F5⟩ := set3 BZ (.int .i64 0) (.int .i64 0) (.bool false)
    generalize (((w0.setCell ⟨z, 0, none⟩ (.int .i64 0)).setCell ⟨z, 1, none⟩ (.int .i64 0)).setCell ⟨z, 2, none⟩ (.bool false)) = w5 at *
    have n0 := B5.cell 0
    have n1 := B5.cell 1
    have n2 := B5.cell 2
    simp at n0 n1 n2
    refine bodyPost_ret (v := .tuple #[.agg #[.int .i64 0, .int .i64 0, .bool false], .int .i64 l.length, .int .i64 3]) (by simp [results, Tryz.results151, go_sem, n0, n1, n2]) rfl ?_
    exact ⟨by rw [HN.out]; rfl, HF0.out.trans' F5 HZW.out⟩
  case inl =>
    obtain ⟨b, o, rfl, hy⟩ := HX.out (by omega)
    obtain ⟨x, hxp⟩ : ∃ x, l[p]? = some x := ⟨_, List.getElem?_eq_getElem hpl⟩
    have ex := HF0.out.cell (hy p x hxp) (fun h => h)
    have hdp := drop_get hxp
    have hx256 := x.toNat_lt
    obtain ⟨y, hyy⟩ : ∃ y, y = x.toNat := ⟨_, rfl⟩
    rw [← hyy] at ex hx256
    have hT : readTagS (l.drop p) = if y % 32 < 31 then .ok (⟨y / 64, y % 32, decide (y / 32 % 2 = 1)⟩, 1) else
      match numS 0 0 (l.drop (p + 1)) with
      | .error e => .error e
      | .ok (n, k) => .ok (⟨y / 64, n, decide (y / 32 % 2 = 1)⟩, k + 1) := by rw [hdp, hyy]; rfl
    have HT := Lib.hid hT
    have HY := Lib.hid hy
    have HYY := Lib.hid hyy
    have r0 : (0 : Int) ≤ (p : Int) := by omega
    have r1 : (p : Int) < (l.length : Int) := by omega
    clear hy hyy hdp hT hxp
    go_enter Tryz.func151, Tryz.ntmps151
    go_upto_region 1 with fail
    rw [← HZ.out]
    generalize (w.alloc (.cells #[.int .i64 0, .int .i64 0, .bool false] 152)) = w0 at *
    go_upto_region 5 with fail
    obtain ⟨c1, hc1⟩ : ∃ c : Int, (y : Int) / 64 = c := ⟨_, rfl⟩
    obtain ⟨c2, hc2⟩ : ∃ c : Int, (y : Int) % 32 = c := ⟨_, rfl⟩
    obtain ⟨c3, hc3⟩ : ∃ c : Bool, ((y : Int) / 32 % 2 == 1) = c := ⟨_, rfl⟩
    have h3 : decide (y / 32 % 2 = 1) = c3 := by
      rw [← hc3, Bool.eq_iff_iff]
      simp
      omega
    rw [h3] at HT
    rw [hc1, hc2, hc3]
    rw [hc1] at HT
    rw [hc2] at HT
    obtain ⟨d, hd⟩ : ∃ d, d = w0.heap.size := ⟨_, rfl⟩
    have BD := Blk.new w0 152 #[.int .i64 c1, .int .i64 c2, .bool c3]
    have F1 : Fr (fun _ => False) w0 (w0.alloc (.cells #[.int .i64 c1, .int .i64 c2, .bool c3] 152)) := (Fr.refl w0).alloc _
    have hzl := BZ.lt
    replace BZ := BZ.fr F1 (fun h => h)
    have HF1 := Lib.hid (HF0.out.trans F1)
    rw [← hd] at BD ⊢
    have hdz : d ≠ z := by omega
    have hdw : ∀ k, k < w.heap.size → k = d → False := fun k hk e => by have := HF0.out.size; omega
    have HDW := Lib.hid hdw
    clear hd F1 hzl hdw h3 hc3 ex HF0
    generalize (w0.alloc (.cells #[.int .i64 c1, .int .i64 c2, .bool c3] 152)) = w1 at *
    have SD := BD.cell
    have SZ := BZ.cell
    have ZD := BD.frozen
    have ZZ := BZ.frozen
    by_cases h31 : y % 32 < 31
    · have q1 : c2 < 31 := by omega
      have hres : readTagS (l.drop p) = .ok (⟨c1, c2, c3⟩, 1) := by rw [HT.out, if_pos h31]
      have HR := Lib.hid hres
      clear hres
      go_wp2_with fail
      obtain ⟨B5, F5⟩ := set3 BZ (.int .i64 c1) (.int .i64 c2) (.bool c3)
      generalize (((w1.setCell ⟨z, 0, none⟩ (.int .i64 c1)).setCell ⟨z, 1, none⟩ (.int .i64 c2)).setCell ⟨z, 2, none⟩ (.bool c3)) = w5 at *
      have n0 := B5.cell 0
      have n1 := B5.cell 1
      have n2 := B5.cell 2
      simp at n0 n1 n2
      refine bodyPost_ret (v := .tuple #[.agg #[.int .i64 c1, .int .i64 c2, .bool c3], .int .i64 ((p : Int) + 1), .int .i64 0]) (by simp [results, Tryz.results151, go_sem, n0, n1, n2]) rfl ?_
      exact ⟨by rw [HR.out]; rfl, HF1.out.trans' F5 HZW.out⟩
    · have q1 : ¬ c2 < 31 := by omega
      have hres : readTagS (l.drop p) = match numS 0 0 (l.drop (p + 1)) with
          | .error e => .error e
          | .ok (n, k) => .ok (⟨c1, n, c3⟩, k + 1) := by rw [HT.out, if_neg h31]
      have HR := Lib.hid hres
      have HBZ := Lib.hid BZ
      have HBD := Lib.hid BD
      clear hres HT
      go_wp2_with fail
      clear SD SZ ZD ZZ BZ BD
      go_loopg [9, 10] 4 (fun g n i wr => ∃ (k m : Nat), g = 4 - k ∧ k ≤ 3 ∧ m < 128 ^ k ∧ n = .int .i64 m ∧ i = .int .i64 ((k : Int) + 1) ∧ numS 0 0 (l.drop (p + 1)) = numS k m (l.drop (p + 1 + k)) ∧ wr = w1)
      case atStart => exact ⟨0, 0, rfl, by omega, by simp, rfl, rfl, rfl, rfl⟩
      case round =>
        obtain ⟨k, m, hg, hk, hm, rfl, rfl, hN, rfl⟩ := hrel
        have HG := Lib.hid hg
        have HN := Lib.hid hN
        have HM := Lib.hid hm
        have BZ := HBZ.out
        have BD := HBD.out
        have SD := BD.cell
        have ZD := BD.frozen
        have SZ := BZ.cell
        have ZZ := BZ.frozen
        clear hg hN hm
        rcases Nat.lt_or_ge (p + 1 + k) l.length with hkl | hkl
        case inr =>
          have q2 : (l.length : Int) ≤ (p : Int) + ((k : Int) + 1) := by omega
          have hres : readTagS (l.drop p) = .error 3 := by
            have hdn : l.drop (p + 1 + k) = [] := List.drop_eq_nil_of_le hkl
            rw [HR.out, HN.out, hdn]
            rfl
          have HRES := Lib.hid hres
          clear hres
          go_wp2_with fail
          obtain ⟨B5, F5⟩ := set3 BZ (.int .i64 0) (.int .i64 0) (.bool false)
          generalize (((wr.setCell ⟨z, 0, none⟩ (.int .i64 0)).setCell ⟨z, 1, none⟩ (.int .i64 0)).setCell ⟨z, 2, none⟩ (.bool false)) = w5 at *
          have n0 := B5.cell 0
          have n1 := B5.cell 1
          have n2 := B5.cell 2
          simp at n0 n1 n2
          refine bodyPost_ret (v := .tuple #[.agg #[.int .i64 0, .int .i64 0, .bool false], .int .i64 p, .int .i64 3]) (by simp [results, Tryz.results151, go_sem, n0, n1, n2]) rfl ?_
          exact ⟨by rw [HRES.out]; rfl, HF1.out.trans' F5 HZW.out⟩
        case inl =>
          have q2 : ¬ (l.length : Int) ≤ (p : Int) + ((k : Int) + 1) := by omega
          obtain ⟨x2, hx2⟩ : ∃ x, l[p + 1 + k]? = some x := ⟨_, List.getElem?_eq_getElem hkl⟩
          have e2 := HF1.out.cell (HY.out (p + 1 + k) x2 hx2) (fun h => h)
          have hN2 := HN.out
          rw [numS_next (drop_get hx2)] at hN2
          obtain ⟨y2, hy2⟩ : ∃ y, y = x2.toNat := ⟨_, rfl⟩
          have hy256 : y2 < 256 := by rw [hy2]; exact x2.toNat_lt
          rw [← hy2] at e2 hN2
          rw [show o + (p + 1 + k) = o + (p + (k + 1)) from by omega] at e2
          have hin : ((p : Int) + ((k : Int) + 1)).toNat = p + (k + 1) := by omega
          have r2 : (0 : Int) ≤ (p : Int) + ((k : Int) + 1) := by omega
          have r3 : (p : Int) + ((k : Int) + 1) < (l.length : Int) := by omega
          have HN2 := Lib.hid hN2
          clear hN2 hx2 hy2 HN
          by_cases hb1 : (k = 0 ∧ y2 = 128) ∨ k = 3
          · have hres : readTagS (l.drop p) = .error 4 := by rw [HR.out, HN2.out, if_pos hb1]
            have HRES := Lib.hid hres
            clear hres HN2
            have hcond : ((((k : Int) + 1 == 1) = true ∧ ((y2 : Int) == 128) = true)) ∨ ((((k : Int) + 1 == 1) = false) ∧ ((k : Int) + 1 == 4) = true) := by
              rcases hb1 with ⟨h1, h2⟩ | h1
              · exact .inl ⟨by subst h1; rfl, by subst h2; rfl⟩
              · exact .inr ⟨by subst h1; rfl, by subst h1; rfl⟩
            rcases hcond with ⟨g1, g2⟩ | ⟨g1, g2⟩
            all_goals
              go_wp2_with fail
              obtain ⟨B5, F5⟩ := set3 BZ (.int .i64 0) (.int .i64 0) (.bool false)
              generalize (((wr.setCell ⟨z, 0, none⟩ (.int .i64 0)).setCell ⟨z, 1, none⟩ (.int .i64 0)).setCell ⟨z, 2, none⟩ (.bool false)) = w5 at *
              have n0 := B5.cell 0
              have n1 := B5.cell 1
              have n2 := B5.cell 2
              simp at n0 n1 n2
              refine bodyPost_ret (v := .tuple #[.agg #[.int .i64 0, .int .i64 0, .bool false], .int .i64 p, .int .i64 4]) (by simp [results, Tryz.results151, go_sem, n0, n1, n2]) rfl ?_
              exact ⟨by rw [HRES.out]; rfl, HF1.out.trans' F5 HZW.out⟩
          · have hk2 : k ≤ 2 := by omega
            have hm2 := num_small HM.out hk2
            have g4 : ((k : Int) + 1 == 4) = false := beq_eq_false_iff_ne.2 (by omega)
            have hcond : ((((k : Int) + 1 == 1) = true ∧ ((y2 : Int) == 128) = false)) ∨ (((k : Int) + 1 == 1) = false) := by
              rcases Nat.eq_zero_or_pos k with h1 | h1
              · exact .inl ⟨by subst h1; rfl, beq_eq_false_iff_ne.2 (by omega)⟩
              · exact .inr (beq_eq_false_iff_ne.2 (by omega))
            have HL := Lib.hid (num_lt HM.out (show y2 % 128 < 128 by omega))
            obtain ⟨m2, hm3⟩ : ∃ m2, m2 = m * 128 + y2 % 128 := ⟨_, rfl⟩
            have hmi : 128 * (m : Int) + (y2 : Int) % 128 = (m2 : Int) := by omega
            rw [← hm3] at HN2 HL
            have hml : m2 < 2097152 := by omega
            clear hm3
            by_cases h128 : y2 < 128
            · have q3 : (y2 : Int) < 128 := by omega
              by_cases hs : m2 < 31
              · have q4 : (m2 : Int) < 31 := by omega
                have hres : readTagS (l.drop p) = .error 4 := by rw [HR.out, HN2.out, if_neg hb1, if_pos h128, if_pos hs]
                have HRES := Lib.hid hres
                clear hres HN2
                rcases hcond with ⟨g1, g2⟩ | g1
                all_goals
                  go_wp2_with fail
                  obtain ⟨B5, F5⟩ := set3 BZ (.int .i64 0) (.int .i64 0) (.bool false)
                  generalize (((wr.setCell ⟨z, 0, none⟩ (.int .i64 0)).setCell ⟨z, 1, none⟩ (.int .i64 0)).setCell ⟨z, 2, none⟩ (.bool false)) = w5 at *
                  have n0 := B5.cell 0
                  have n1 := B5.cell 1
                  have n2 := B5.cell 2
                  simp at n0 n1 n2
                  refine bodyPost_ret (v := .tuple #[.agg #[.int .i64 0, .int .i64 0, .bool false], .int .i64 p, .int .i64 4]) (by simp [results, Tryz.results151, go_sem, n0, n1, n2]) rfl ?_
                  exact ⟨by rw [HRES.out]; rfl, HF1.out.trans' F5 HZW.out⟩
              · have q4 : ¬ (m2 : Int) < 31 := by omega
                have hres : readTagS (l.drop p) = .ok (⟨c1, m2, c3⟩, k + 1 + 1) := by rw [HR.out, HN2.out, if_neg hb1, if_pos h128, if_neg hs]
                have HRES := Lib.hid hres
                have BD3 := BD.set 1 (.int .i64 m2)
                simp at BD3
                have F3 : Fr (fun q => q = d) wr (wr.setCell ⟨d, 1, none⟩ (.int .i64 m2)) := Fr.setCell (S := fun q => q = d) (p := ⟨d, 1, none⟩) (Fr.refl wr) (fun _ => rfl) _
                have BZ3 := BZ.fr F3 (fun e => hdz e.symm)
                have HF3 := Lib.hid (HF1.out.trans' F3 HDW.out)
                clear hres HN2 F3
                rcases hcond with ⟨g1, g2⟩ | g1
                all_goals
                  go_upto_region 20 with fail
                  generalize (wr.setCell ⟨d, 1, none⟩ (.int .i64 m2)) = w3 at *
                  clear SD ZD SZ ZZ
                  have SD := BD3.cell
                  have SZ := BZ3.cell
                  have ZZ := BZ3.frozen
                  go_wp2_with fail
                  obtain ⟨B5, F5⟩ := set3 BZ3 (.int .i64 c1) (.int .i64 m2) (.bool c3)
                  generalize (((w3.setCell ⟨z, 0, none⟩ (.int .i64 c1)).setCell ⟨z, 1, none⟩ (.int .i64 m2)).setCell ⟨z, 2, none⟩ (.bool c3)) = w5 at *
                  have n0 := B5.cell 0
                  have n1 := B5.cell 1
                  have n2 := B5.cell 2
                  simp at n0 n1 n2
                  refine bodyPost_ret (v := .tuple #[.agg #[.int .i64 c1, .int .i64 m2, .bool c3], .int .i64 ((p : Int) + ((k : Int) + 1) + 1), .int .i64 0]) (by simp [results, Tryz.results151, go_sem, n0, n1, n2]) rfl ?_
                  exact ⟨by rw [HRES.out]; simp only [rTagV, tagV]; rw [show ((p + (k + 1 + 1) : Nat) : Int) = (p : Int) + ((k : Int) + 1) + 1 from by omega], HF3.out.trans' F5 HZW.out⟩
            · have q3 : ¬ (y2 : Int) < 128 := by omega
              have hnx : numS 0 0 (l.drop (p + 1)) = numS (k + 1) m2 (l.drop (p + 1 + (k + 1))) := by rw [HN2.out, if_neg hb1, if_neg h128]; rfl
              have HNX := Lib.hid hnx
              clear hnx HN2
              rcases hcond with ⟨g1, g2⟩ | g1
              all_goals
                go_wp2_with fail
                go_roundg (4 - (k + 1))
                case measure => rw [HG.out]; omega
                case rel => exact ⟨k + 1, m2, rfl, by omega, HL.out, rfl, by go_num, HNX.out, rfl⟩
end Go.Proofs.YthjcoolefboodaaGreatDoor

namespace Go.Proofs.YthjcoolefboodaaGreatDoor
open Go Go.RowKit Go.Q
def rLenV (p : Nat) : Except Int (Nat × Nat) → Value
  | .error e => .tuple #[.int .i64 0, .int .i64 p, .int .i64 e]
  | .ok (v, k) => .tuple #[.int .i64 v, .int .i64 ((p + k : Nat) : Int), .int .i64 0]
set_option maxRecDepth 20000 in
set_option maxHeartbeats 2000000 in
theorem r02ReadLength_any (v : Value) (l : List UInt8) (p : Nat) (w : World) (h : Bytes w v l) (hp : p ≤ l.length) (hlm : l.length ≤ 1099511627776) :
    Calls Tryz.prog 152 #[v, .int .i64 p] w fun e w' => e = .returned (rLenV p (readLenS (l.drop p))) ∧ w = w' := by
  obtain ⟨a, cap, rfl, -, -, hx⟩ := h.form
  have HX := Lib.hid hx
  clear h hx
  rcases Nat.lt_or_ge p l.length with hpl | hpl
  case inr =>
    obtain rfl : p = l.length := by omega
    have hn : readLenS (l.drop l.length) = .error 3 := by rw [List.drop_length]; rfl
    have HN := Lib.hid hn
    clear hn
    go_enter Tryz.func152, Tryz.ntmps152
    go_wp2_with fail
    exact bodyPost_ret (v := .tuple #[.int .i64 0, .int .i64 l.length, .int .i64 3]) (by simp [results, Tryz.results152, go_sem]) rfl ⟨by rw [HN.out]; rfl, rfl⟩
  case inl =>
    obtain ⟨b, o, rfl, hy⟩ := HX.out (by omega)
    obtain ⟨x, hxp⟩ : ∃ x, l[p]? = some x := ⟨_, List.getElem?_eq_getElem hpl⟩
    have ex := hy p x hxp
    have hdp := drop_get hxp
    obtain ⟨y, hyy⟩ : ∃ y, y = x.toNat := ⟨_, rfl⟩
    have hx256 : y < 256 := by rw [hyy]; exact x.toNat_lt
    rw [← hyy] at ex
    have hT : readLenS (l.drop p) = if y < 128 then .ok (y, 1) else if y = 128 ∨ 132 < y then .error 5 else longS (y - 128) (l.drop (p + 1)) := by rw [hdp, hyy]; rfl
    have HT := Lib.hid hT
    have HY := Lib.hid hy
    have r0 : (0 : Int) ≤ (p : Int) := by omega
    have r1 : (p : Int) < (l.length : Int) := by omega
    clear hy hyy hdp hT hxp HX
    by_cases h1 : y < 128
    · have q1 : (y : Int) < 128 := by omega
      have hres : readLenS (l.drop p) = .ok (y, 1) := by rw [HT.out, if_pos h1]
      have HR := Lib.hid hres
      clear hres
      go_enter Tryz.func152, Tryz.ntmps152
      go_wp2_with fail
      exact bodyPost_ret (v := .tuple #[.int .i64 y, .int .i64 ((p : Int) + 1), .int .i64 0]) (by simp [results, Tryz.results152, go_sem]) rfl ⟨by rw [HR.out]; rfl, rfl⟩
    have q1 : ¬ (y : Int) < 128 := by omega
    by_cases h2 : y = 128 ∨ 132 < y
    · have hres : readLenS (l.drop p) = .error 5 := by rw [HT.out, if_neg h1, if_pos h2]
      have HR := Lib.hid hres
      have hc : ((y : Int) == 128) = true ∨ (((y : Int) == 128) = false ∧ (132 : Int) < (y : Int)) := by
        rcases Classical.em (y = 128) with h | h
        · exact .inl (by subst h; rfl)
        · exact .inr ⟨beq_eq_false_iff_ne.2 (by omega), by omega⟩
      clear hres
      rcases hc with g1 | ⟨g1, g2⟩
      all_goals
        go_enter Tryz.func152, Tryz.ntmps152
        go_wp2_with fail
        exact bodyPost_ret (v := .tuple #[.int .i64 0, .int .i64 p, .int .i64 5]) (by simp [results, Tryz.results152, go_sem]) rfl ⟨by rw [HR.out]; rfl, rfl⟩
    have g1 : ((y : Int) == 128) = false := beq_eq_false_iff_ne.2 (by omega)
    have g2 : ¬ (132 : Int) < (y : Int) := by omega
    obtain ⟨n, hn⟩ : ∃ n, n = y - 128 := ⟨_, rfl⟩
    have hn1 : 1 ≤ n := by omega
    have hn4 : n ≤ 4 := by omega
    have hyn : (y : Int) - 128 = (n : Int) := by omega
    have hres : readLenS (l.drop p) = longS n (l.drop (p + 1)) := by rw [HT.out, if_neg h1, if_neg h2, ← hn]
    have HR := Lib.hid hres
    clear hres hn HT
    have hdl : (l.drop (p + 1)).length = l.length - (p + 1) := List.length_drop
    by_cases h3 : l.length - (p + 1) < n
    · have q3 : (l.length : Int) - (p : Int) - 1 < (n : Int) := by omega
      have hres : readLenS (l.drop p) = .error 3 := by rw [HR.out]; unfold longS; rw [hdl, if_pos h3]
      have HRES := Lib.hid hres
      clear hres hdl
      go_enter Tryz.func152, Tryz.ntmps152
      go_wp2_with fail
      exact bodyPost_ret (v := .tuple #[.int .i64 0, .int .i64 p, .int .i64 3]) (by simp [results, Tryz.results152, go_sem]) rfl ⟨by rw [HRES.out]; rfl, rfl⟩
    have q3 : ¬ (l.length : Int) - (p : Int) - 1 < (n : Int) := by omega
    obtain ⟨x1, hx1⟩ : ∃ x, l[p + 1]? = some x := ⟨_, List.getElem?_eq_getElem (by omega)⟩
    have ex1 := HY.out (p + 1) x1 hx1
    obtain ⟨V, hV⟩ : ∃ V, V = beS ((l.drop (p + 1)).take n) := ⟨_, rfl⟩
    have hVl : V < 4294967296 := by rw [hV]; exact be_lt _ (by rw [List.length_take]; omega)
    have hL : longS n (l.drop (p + 1)) = if x1.toNat = 0 ∨ V < 128 then .error 5 else if 16777216 < V then .error 2 else .ok (V, n + 1) := by
      unfold longS
      rw [hdl, if_neg h3, ← hV, drop_get hx1]
      simp
    rw [hL] at HR
    have HV := Lib.hid hV
    obtain ⟨y1, hy1⟩ : ∃ y1, y1 = x1.toNat := ⟨_, rfl⟩
    rw [← hy1] at HR ex1
    have r2 : (p : Int) + 1 < (l.length : Int) := by omega
    have HEX := Lib.hid ex1
    clear hL hdl hx1 hV hy1 ex1
    go_enter Tryz.func152, Tryz.ntmps152
    go_wp2_with fail
    go_loopg [9, 10] n (fun g k i wr => ∃ j : Nat, g = n - j ∧ j ≤ n ∧ k = .int .i64 (beS ((l.drop (p + 1)).take j)) ∧ i = .int .i64 ((j : Int) + 1) ∧ wr = w)
    case atStart => exact ⟨0, rfl, Nat.zero_le _, rfl, rfl, rfl⟩
    case round =>
      obtain ⟨j, hg, hj, rfl, rfl, rfl⟩ := hrel
      have HG := Lib.hid hg
      clear hg
      by_cases hjn : j < n
      · have q4 : (j : Int) + 1 ≤ (n : Int) := by omega
        obtain ⟨x2, hx2⟩ : ∃ x, l[p + 1 + j]? = some x := ⟨_, List.getElem?_eq_getElem (by omega)⟩
        have e2 := HY.out (p + 1 + j) x2 hx2
        have hx3 : (l.drop (p + 1))[j]? = some x2 := by rw [List.getElem?_drop]; exact hx2
        have hbe := be_take hx3
        obtain ⟨K, hK⟩ : ∃ K, K = beS ((l.drop (p + 1)).take j) := ⟨_, rfl⟩
        have hKl : K < 4294967296 := by rw [hK]; exact be_lt _ (by rw [List.length_take]; omega)
        rw [← hK] at hbe ⊢
        have HBE := Lib.hid hbe
        have h256 := x2.toNat_lt
        generalize x2.toNat = y2 at *
        rw [show o + (p + 1 + j) = o + (p + (j + 1)) from by omega] at e2
        have hin : ((p : Int) + ((j : Int) + 1)).toNat = p + (j + 1) := by omega
        have r2 : (0 : Int) ≤ (p : Int) + ((j : Int) + 1) := by omega
        have r3 : (p : Int) + ((j : Int) + 1) < (l.length : Int) := by omega
        have hy2 : y2 < 256 := by omega
        clear hbe hK hx2 hx3 h256
        go_wp2_with fail
        go_roundg (n - (j + 1))
        case measure => rw [HG.out]; omega
        case rel => exact ⟨j + 1, rfl, by omega, by rw [HBE.out]; go_num, by go_num, rfl⟩
      · obtain rfl : j = n := by omega
        have q4 : ¬ (j : Int) + 1 ≤ (j : Int) := by omega
        rw [← HV.out]
        have e1 := HEX.out
        have hin : ((p : Int) + 1).toNat = p + 1 := by omega
        have r3 : (0 : Int) ≤ (p : Int) + 1 := by omega
        by_cases h4 : y1 = 0 ∨ V < 128
        · have hres : readLenS (l.drop p) = .error 5 := by rw [HR.out, if_pos h4]
          have HRES := Lib.hid hres
          have hc : ((y1 : Int) == 0) = true ∨ (((y1 : Int) == 0) = false ∧ (V : Int) < 128) := by
            rcases Classical.em (y1 = 0) with h | h
            · exact .inl (by subst h; rfl)
            · exact .inr ⟨beq_eq_false_iff_ne.2 (by omega), by omega⟩
          clear hres
          rcases hc with g3 | ⟨g3, g4⟩
          all_goals
            go_wp2_with fail
            exact bodyPost_ret (v := .tuple #[.int .i64 0, .int .i64 p, .int .i64 5]) (by simp [results, Tryz.results152, go_sem]) rfl ⟨by rw [HRES.out]; rfl, rfl⟩
        · have g3 : ((y1 : Int) == 0) = false := beq_eq_false_iff_ne.2 (by omega)
          have g4 : ¬ (V : Int) < 128 := by omega
          by_cases h5 : 16777216 < V
          · have g5 : (16777216 : Int) < (V : Int) := by omega
            have hres : readLenS (l.drop p) = .error 2 := by rw [HR.out, if_neg h4, if_pos h5]
            have HRES := Lib.hid hres
            clear hres
            go_wp2_with fail
            exact bodyPost_ret (v := .tuple #[.int .i64 0, .int .i64 p, .int .i64 2]) (by simp [results, Tryz.results152, go_sem]) rfl ⟨by rw [HRES.out]; rfl, rfl⟩
          · have g5 : ¬ (16777216 : Int) < (V : Int) := by omega
            have hres : readLenS (l.drop p) = .ok (V, j + 1) := by rw [HR.out, if_neg h4, if_neg h5]
            have HRES := Lib.hid hres
            clear hres
            go_wp2_with fail
            exact bodyPost_ret (v := .tuple #[.int .i64 V, .int .i64 ((p : Int) + (j : Int) + 1), .int .i64 0]) (by simp [results, Tryz.results152, go_sem]) rfl ⟨by rw [HRES.out]; simp only [rLenV]; rw [show ((p + (j + 1) : Nat) : Int) = (p : Int) + (j : Int) + 1 from by omega], rfl⟩
end Go.Proofs.YthjcoolefboodaaGreatDoor

namespace Go.Proofs.YthjcoolefboodaaGreatDoor
open Go Go.RowKit Go.Q
set_option linter.unusedSimpArgs false
def rReadV (p : Nat) : Except Int (Tag × Nat × Nat) → Value
  | .error e => .tuple #[tagV ⟨0, 0, false⟩, .int .i64 0, .int .i64 p, .int .i64 e]
  | .ok (t, n, k) => .tuple #[tagV t, .int .i64 n, .int .i64 ((p + k : Nat) : Int), .int .i64 0]
theorem readTag_le {l : List UInt8} {t : Tag} {k : Nat} (h : readTagS l = .ok (t, k)) : k ≤ l.length := by
  cases l with
  | nil => simp [readTagS] at h
  | cons x r =>
    simp only [readTagS] at h
    split at h
    · simp only [Except.ok.injEq, Prod.mk.injEq] at h
      simp only [List.length_cons]
      omega
    · split at h
      · cases h
      · rename_i n k' he
        have := (numS_pos he).2
        simp only [Except.ok.injEq, Prod.mk.injEq] at h
        simp only [List.length_cons]
        omega
set_option maxRecDepth 20000 in
set_option maxHeartbeats 2000000 in
theorem r02Read_any (v : Value) (l : List UInt8) (p : Nat) (w : World) (h : Bytes w v l) (hp : p ≤ l.length) (hlm : l.length ≤ 1099511627776) :
    Calls Tryz.prog 116 #[v, .int .i64 p] w fun e w' => e = .returned (rReadV p (readS (l.drop p))) ∧ Fr (fun _ => False) w w' := by
  obtain ⟨a, cap, rfl, -⟩ := h.form
  obtain ⟨z, hz⟩ : ∃ z, z = w.heap.size := ⟨_, rfl⟩
  have BZ := Blk.new w 152 #[.int .i64 0, .int .i64 0, .bool false]
  have F0 : Fr (fun _ => False) w (w.alloc (.cells #[.int .i64 0, .int .i64 0, .bool false] 152)) := (Fr.refl w).alloc _
  rw [← hz] at BZ
  have hzw : ∀ k, k < w.heap.size → k = z → False := fun k hk e => by omega
  have HZ := Lib.hid hz
  have HT := Lib.hid (r02ReadTag_any _ l p _ (h.old F0) hp hlm)
  have HB := Lib.hid h
  have HF0 := Lib.hid F0
  have HZW := Lib.hid hzw
  have hR : readS (l.drop p) = match readTagS (l.drop p) with
    | .error e => .error e
    | .ok (t, k) => match readLenS ((l.drop p).drop k) with
      | .error e => .error e
      | .ok (n, m) => .ok (t, n, k + m) := rfl
  have HR := Lib.hid hR
  clear h hz F0 hzw hR
  go_enter Tryz.func116, Tryz.ntmps116
  go_upto_region 1 with fail
  rw [← HZ.out]
  generalize (w.alloc (.cells #[.int .i64 0, .int .i64 0, .bool false] 152)) = w0 at *
  go_wp2_with fail
  refine HT.out.mono ?_
  rintro e w1 ⟨rfl, F⟩
  replace BZ := BZ.fr F (fun h => h)
  have HF := Lib.hid (HF0.out.trans F)
  clear F HF0 HT
  cases ht : readTagS (l.drop p) with
  | error e =>
    have he : e ≠ 0 := readTagS_err ht
    have he1 : (e == 0) = false := beq_eq_false_iff_ne.2 he
    have he2 : (e != 0) = true := by simpa using he
    have hres : readS (l.drop p) = .error e := by rw [HR.out, ht]
    have HRES := Lib.hid hres
    clear ht hres he
    rw [show rTagV p (.error e) = .tuple #[.agg #[.int .i64 0, .int .i64 0, .bool false], .int .i64 p, .int .i64 e] from rfl]
    go_upto_region 2 with fail
    obtain ⟨d, hd⟩ : ∃ d, d = w1.heap.size := ⟨_, rfl⟩
    have BD := Blk.new w1 152 #[.int .i64 0, .int .i64 0, .bool false]
    have F1 : Fr (fun _ => False) w1 (w1.alloc (.cells #[.int .i64 0, .int .i64 0, .bool false] 152)) := (Fr.refl w1).alloc _
    have hzl := BZ.lt
    replace BZ := BZ.fr F1 (fun h => h)
    have HF1 := Lib.hid (HF.out.trans F1)
    rw [← hd] at BD ⊢
    have hdz : d ≠ z := by omega
    clear hd F1 hzl HF
    generalize (w1.alloc (.cells #[.int .i64 0, .int .i64 0, .bool false] 152)) = w2 at *
    have SZ := BZ.cell
    have ZZ := BZ.frozen
    go_wp2_with fail
    obtain ⟨B5, F5⟩ := set3 BZ (.int .i64 0) (.int .i64 0) (.bool false)
    generalize (((w2.setCell ⟨z, 0, none⟩ (.int .i64 0)).setCell ⟨z, 1, none⟩ (.int .i64 0)).setCell ⟨z, 2, none⟩ (.bool false)) = w5 at *
    have n0 := B5.cell 0
    have n1 := B5.cell 1
    have n2 := B5.cell 2
    simp at n0 n1 n2
    refine bodyPost_ret (v := .tuple #[.agg #[.int .i64 0, .int .i64 0, .bool false], .int .i64 0, .int .i64 p, .int .i64 e]) (by simp [results, Tryz.results116, go_sem, n0, n1, n2]) rfl ?_
    exact ⟨by rw [HRES.out]; rfl, HF1.out.trans' F5 HZW.out⟩
  | ok tk =>
    obtain ⟨⟨c1, c2, c3⟩, k⟩ := tk
    have hk := readTag_le ht
    rw [List.length_drop] at hk
    have hres : readS (l.drop p) = match readLenS (l.drop (p + k)) with
      | .error e => .error e
      | .ok (n, m) => .ok (⟨c1, c2, c3⟩, n, k + m) := by rw [HR.out, ht]; simp only [List.drop_drop]
    have HRES := Lib.hid hres
    clear ht hres
    rw [show rTagV p (.ok (⟨c1, c2, c3⟩, k)) = .tuple #[.agg #[.int .i64 c1, .int .i64 c2, .bool c3], .int .i64 ((p + k : Nat) : Int), .int .i64 0] from rfl]
    generalize hq : p + k = q at *
    go_upto_region 2 with fail
    obtain ⟨d, hd⟩ : ∃ d, d = w1.heap.size := ⟨_, rfl⟩
    have BD := Blk.new w1 152 #[.int .i64 c1, .int .i64 c2, .bool c3]
    have F1 : Fr (fun _ => False) w1 (w1.alloc (.cells #[.int .i64 c1, .int .i64 c2, .bool c3] 152)) := (Fr.refl w1).alloc _
    have hzl := BZ.lt
    replace BZ := BZ.fr F1 (fun h => h)
    have HF1 := Lib.hid (HF.out.trans F1)
    rw [← hd] at BD ⊢
    have hdz : d ≠ z := by omega
    clear hd F1 hzl HF
    generalize (w1.alloc (.cells #[.int .i64 c1, .int .i64 c2, .bool c3] 152)) = w2 at *
    have HL := Lib.hid (r02ReadLength_any _ l q w2 (HB.out.old HF1.out) (by omega) hlm)
    have SZ := BZ.cell
    have ZZ := BZ.frozen
    have SD := BD.cell
    go_wp2_with fail
    refine HL.out.mono ?_
    rintro e w3 ⟨rfl, rfl⟩
    cases hl : readLenS (l.drop q) with
    | error e =>
      have he : e ≠ 0 := readLenS_err hl
      have he1 : (e == 0) = false := beq_eq_false_iff_ne.2 he
      have he2 : (e != 0) = true := by simpa using he
      have hres : readS (l.drop p) = .error e := by rw [HRES.out, hl]
      have HRES2 := Lib.hid hres
      clear hl hres he
      rw [show rLenV q (.error e) = .tuple #[.int .i64 0, .int .i64 q, .int .i64 e] from rfl]
      go_wp2_with fail
      obtain ⟨B5, F5⟩ := set3 BZ (.int .i64 0) (.int .i64 0) (.bool false)
      generalize (((w2.setCell ⟨z, 0, none⟩ (.int .i64 0)).setCell ⟨z, 1, none⟩ (.int .i64 0)).setCell ⟨z, 2, none⟩ (.bool false)) = w5 at *
      have n0 := B5.cell 0
      have n1 := B5.cell 1
      have n2 := B5.cell 2
      simp at n0 n1 n2
      refine bodyPost_ret (v := .tuple #[.agg #[.int .i64 0, .int .i64 0, .bool false], .int .i64 0, .int .i64 p, .int .i64 e]) (by simp [results, Tryz.results116, go_sem, n0, n1, n2]) rfl ?_
      exact ⟨by rw [HRES2.out]; rfl, HF1.out.trans' F5 HZW.out⟩
    | ok vm =>
      obtain ⟨n, m⟩ := vm
      have hres : readS (l.drop p) = .ok (⟨c1, c2, c3⟩, n, k + m) := by rw [HRES.out, hl]
      have HRES2 := Lib.hid hres
      clear hl hres
      rw [show rLenV q (.ok (n, m)) = .tuple #[.int .i64 n, .int .i64 ((q + m : Nat) : Int), .int .i64 0] from rfl]
      generalize hr : q + m = r at *
      go_wp2_with fail
      obtain ⟨B5, F5⟩ := set3 BZ (.int .i64 c1) (.int .i64 c2) (.bool c3)
      generalize (((w2.setCell ⟨z, 0, none⟩ (.int .i64 c1)).setCell ⟨z, 1, none⟩ (.int .i64 c2)).setCell ⟨z, 2, none⟩ (.bool c3)) = w5 at *
      have n0 := B5.cell 0
      have n1 := B5.cell 1
      have n2 := B5.cell 2
      simp at n0 n1 n2
      refine bodyPost_ret (v := .tuple #[.agg #[.int .i64 c1, .int .i64 c2, .bool c3], .int .i64 n, .int .i64 r, .int .i64 0]) (by simp [results, Tryz.results116, go_sem, n0, n1, n2]) rfl ?_
      exact ⟨by rw [HRES2.out]; simp only [rReadV, tagV]; rw [show p + (k + m) = r from by omega], HF1.out.trans' F5 HZW.out⟩
end Go.Proofs.YthjcoolefboodaaGreatDoor

namespace Go.Q
open Go
theorem readLen_le {l : List UInt8} {v k : Nat} (h : readLenS l = .ok (v, k)) : k ≤ l.length ∧ v ≤ 16777216 := by
  cases l with
  | nil => simp [readLenS] at h
  | cons x t =>
    simp only [readLenS] at h
    split at h
    · simp only [Except.ok.injEq, Prod.mk.injEq] at h
      simp only [List.length_cons]
      omega
    · split at h
      · cases h
      · unfold longS at h
        split at h
        · cases h
        split at h
        · cases h
        split at h
        · cases h
        · simp only [Except.ok.injEq, Prod.mk.injEq] at h
          simp only [List.length_cons]
          omega
theorem readS_le {l : List UInt8} {t : Tag} {n k : Nat} (h : readS l = .ok (t, n, k)) : k ≤ l.length ∧ n ≤ 16777216 := by
  unfold readS at h
  split at h
  · cases h
  · rename_i t' k' he
    have h1 := Go.Proofs.YthjcoolefboodaaGreatDoor.readTag_le he
    split at h
    · cases h
    · rename_i v m hl
      have h2 := readLen_le hl
      rw [List.length_drop] at h2
      simp only [Except.ok.injEq, Prod.mk.injEq] at h
      omega
end Go.Q

namespace Go.Q
open Go Go.RowKit
theorem up7_zero (f : Nat) : up7 f 0 = [] := by cases f <;> simp [up7]
theorem up7_ge : ∀ (f m : Nat), m < 128 ^ f → up7 (f + 1) m = up7 f m
  | 0, m, h => by simp at h; subst h; simp [up7]
  | f + 1, m, h => by
    by_cases h0 : m = 0
    · subst h0; simp [up7]
    · have ih := up7_ge f (m / 128) (by rw [Nat.pow_succ] at h; omega)
      rw [up7, if_neg h0, ih]
      rw [up7, if_neg h0]
theorem base128_small {n : Nat} (h : n < 128) : base128 n = [UInt8.ofNat n] := by
  unfold base128
  rw [show n / 128 = 0 from by omega, up7_zero, show n % 128 = n from by omega]
  rfl
theorem base128_step {n : Nat} (h : 128 ≤ n) (hn : n ≤ 2147483647) : ∃ front : List UInt8, base128 (n / 128) = front ++ [UInt8.ofNat (n / 128 % 128)] ∧ base128 n = front ++ [UInt8.ofNat (n / 128 % 128 + 128)] ++ [UInt8.ofNat (n % 128)] := by
  refine ⟨(up7 5 (n / 128 / 128)).reverse, by simp [base128], ?_⟩
  have e : up7 5 (n / 128) = UInt8.ofNat (n / 128 % 128 + 128) :: up7 4 (n / 128 / 128) := by rw [up7, if_neg (by omega)]
  have e2 : up7 5 (n / 128 / 128) = up7 4 (n / 128 / 128) := up7_ge 4 _ (Nat.lt_of_le_of_lt (show n / 128 / 128 ≤ 131071 by omega) (by decide))
  unfold base128
  rw [e, e2]
  simp
theorem own_set {w : World} {base n : Nat} {e : TypeId} {a : Option Addr} {m c : Nat} {xs : List Value} (h : w.ownsRow base e 1 (.slice a m c) n xs) (i : Nat) (hi : i < n) (u : Value) :
    ∃ g, a = some ⟨g, 0, none⟩ ∧ base ≤ g ∧ g < w.heap.size ∧ m = n ∧ n ≤ c ∧ c ≤ maxLen ∧ w.frozen? ⟨g, i, none⟩ = false ∧ w.cell? ⟨g, i, none⟩ = xs[i]? ∧ (w.setCell ⟨g, i, none⟩ u).ownsRow base e 1 (.slice a m c) n (xs.set i u) ∧ Fr (fun k => k = g) w (w.setCell ⟨g, i, none⟩ u) := by
  obtain ⟨h1, h2⟩ := h
  rcases h2 with ⟨he, h0⟩ | ⟨g, cap, cur, he, hg, hh, hnc, hcm, hcs, htk⟩
  · omega
  · simp only [Value.slice.injEq] at he
    obtain ⟨rfl, rfl, rfl⟩ := he
    have B : Blk w g e cur := hh
    simp only [Nat.mul_one] at h1 hcs htk
    refine ⟨g, rfl, hg, B.lt, rfl, hnc, hcm, B.frozen i, ?_, ⟨by simpa using h1, .inr ⟨g, c, cur.setIfInBounds i u, rfl, hg, B.set i u, hnc, hcm, by simpa using hcs, ?_⟩⟩, Fr.setCell (S := fun k => k = g) (p := ⟨g, i, none⟩) (Fr.refl w) (fun _ => rfl) _⟩
    · rw [B.cell, ← htk, List.getElem?_take, if_pos hi, Array.getElem?_toList]
    · rw [Nat.mul_one, Array.toList_setIfInBounds, ← htk, List.take_set]
end Go.Q

namespace Go.Proofs.YthjcoolefboodaaGreatDoor
open Go Go.RowKit Go.Q
theorem steps_next {l : List Part} {ws : List (List UInt8)} {x : List UInt8} {j : Nat} (hS : stepsS none l = (stepsS ws.getLast? (l.drop j)).map (ws ++ ·))
    (hsp : stepsS ws.getLast? (l.drop j) = if (match ws.getLast? with | some y => decide (0 ≤ cmpS y x) | none => false) = true then none else (stepsS (some x) (l.drop (j + 1))).map (x :: ·))
    (hc : (match ws.getLast? with | some y => decide (0 ≤ cmpS y x) | none => false) = false) : stepsS none l = (stepsS (ws ++ [x]).getLast? (l.drop (j + 1))).map ((ws ++ [x]) ++ ·) := by
  rw [hS, hsp, hc, List.getLast?_concat]
  simp only [Bool.false_eq_true, ↓reduceIte, Option.map_map]
  congr 1
  funext y
  simp
theorem attr_len {o : List Int} {b x : List UInt8} (h : attrS o b = some x) (hb : b.length ≤ 10000000) : 0 < x.length ∧ x.length ≤ 1099511627776 := by
  unfold attrS at h
  split at h
  · rename_i h0
    simp only [Bool.and_eq_true] at h0
    simp only [Option.some.injEq] at h
    subst h
    have h1 := oidWhole_len (nums_ok h0.1).2.1
    have h2 : (lenBytes (oidWhole o ++ b).length).length ≤ 5 := by unfold lenBytes; (repeat' split) <;> simp
    rw [wrap_len, List.length_append] at *
    omega
  · cases h
set_option maxRecDepth 20000 in
set_option maxHeartbeats 2000000 in
theorem wholesRdn_any (v : Value) (l : List Part) (w : World) (h : Attrs w v l) (hf : fewB l) :
    Calls Tryz.prog 103 #[v] w fun e w' => (∃ v', e = .returned (.tuple #[v', .bool (rdnS l).isSome]) ∧ ∀ ls, rdnS l = some ls → Row w' w.heap.size v' ls) ∧ Fr (fun _ => False) w w' := by
  have H := Lib.hid h
  obtain ⟨a, cap, rfl, hc, hm, -⟩ := h
  rcases Classical.em (l.length = 0 ∨ 16 < l.length) with hl | hl
  · have hn : rdnS l = none := by unfold rdnS; rw [if_pos hl]
    rcases hl with hl | hl
    · have HN := Lib.hid hn
      have q1 : ((l.length : Int) == 0) = true := by rw [hl]; rfl
      have q2 : (l.length == 0) = true := by rw [hl]; rfl
      clear hn
      go_enter Tryz.func103, Tryz.ntmps103
      go_wp2_with fail
      refine bodyPost_ret (v := .tuple #[.slice none 0 0, .bool false]) (by simp [results, Tryz.results103, go_sem]) rfl ⟨⟨_, by rw [HN.out]; rfl, fun ls e => by rw [HN.out] at e; cases e⟩, Fr.refl _⟩
    · have HN := Lib.hid hn
      have q1 : ((l.length : Int) == 0) = false := beq_eq_false_iff_ne.2 (by omega)
      have q2 : (l.length == 0) = false := beq_eq_false_iff_ne.2 (by omega)
      have q3 : (16 : Int) < (l.length : Int) := by omega
      clear hn
      go_enter Tryz.func103, Tryz.ntmps103
      go_wp2_with fail
      refine bodyPost_ret (v := .tuple #[.slice none 0 0, .bool false]) (by simp [results, Tryz.results103, go_sem]) rfl ⟨⟨_, by rw [HN.out]; rfl, fun ls e => by rw [HN.out] at e; cases e⟩, Fr.refl _⟩
  · have hn : rdnS l = stepsS none l := by unfold rdnS; rw [if_neg hl]
    have HN := Lib.hid hn
    have q1 : ((l.length : Int) == 0) = false := beq_eq_false_iff_ne.2 (by omega)
    have q2 : (l.length == 0) = false := beq_eq_false_iff_ne.2 (by omega)
    have q3 : ¬ (16 : Int) < (l.length : Int) := by omega
    have qT : ∀ (w : World) (a : Option Addr) (n c n' c' : Nat), (binOp .eql 22 (.slice a n c) (.slice none n' c')).run Tryz.prog w = .ok (.bool a.isNone) w := fun w a n c n' c' => Lib.run_eql_slice_nil w _ _ a n c n' c' Tryz.underlying22
    clear hn
    go_enter Tryz.func103, Tryz.ntmps103
    go_wp2_with fail
    go_loopg [4, 18] l.length (fun g u i wr => ∃ (j : Nat) (ws : List (List UInt8)), g = l.length - j ∧ j ≤ l.length ∧ i = .int .i64 j ∧ ws.length = j ∧ (∀ y ∈ ws, y.length ≤ 1099511627776) ∧ Row wr w.heap.size u ws ∧ Fr (fun _ => False) w wr ∧ (stepsS none l = (stepsS ws.getLast? (l.drop j)).map (ws ++ ·)))
    case atStart => exact ⟨0, [], rfl, Nat.zero_le _, rfl, rfl, by simp, Row.nil _ _, Fr.refl _, by simp⟩
    case round =>
      obtain ⟨j, ws, hg, hj, rfl, hws, hwl, hrow, F, hS⟩ := hrel
      have HG := Lib.hid hg
      have HS := Lib.hid hS
      have HF := Lib.hid F
      obtain ⟨au, cu, rfl⟩ : ∃ au cu, u4 = .slice au j cu := by
        obtain ⟨us, h1, _⟩ := hrow
        obtain ⟨a0, m0, c0, rfl, rfl⟩ := own_shape h1
        exact ⟨_, _, by rw [hws]⟩
      have HR := Lib.hid hrow
      have HWS := Lib.hid hws
      clear hg hS hrow hws
      by_cases hjl : j < l.length
      · obtain ⟨a0, cap0, he, _, _, hx⟩ := H.out.old F
        simp only [Value.slice.injEq, true_and] at he
        obtain ⟨rfl, rfl⟩ := he
        obtain ⟨b, off, rfl, hy⟩ := hx (by omega)
        obtain ⟨p, hp⟩ : ∃ p, l[j]? = some p := ⟨_, List.getElem?_eq_getElem hjl⟩
        obtain ⟨x, y, e1, e2, hpx, hpy⟩ := hy j p hp
        have hsp := Lib.hid (stepsS_split l j p hp ws.getLast?)
        have hpb := hf p (List.mem_of_getElem? hp)
        have r1 : (0 : Int) ≤ (j : Int) := by omega
        have r2 : (j : Int) < (l.length : Int) := by omega
        have HPX := Lib.hid hpx
        have HPY := Lib.hid hpy
        obtain ⟨ax, cx, rfl, -⟩ := Ints.form hpx
        obtain ⟨ay, cy, rfl, -⟩ := Vals.form hpy
        have e1' : wr.cell? ⟨b, off + j * 2, none⟩ = some (.slice ax p.o.length cx) := by rw [Nat.mul_comm]; exact e1
        have e2' : wr.cell? ⟨b, off + j * 2 + 1, none⟩ = some (.slice ay p.b.length cy) := by rw [Nat.mul_comm]; exact e2
        clear hx hy hp hpx hpy F
        go_upto_region 7 with fail
        have BZ := Blk.new wr 107 #[.slice ax p.o.length cx, .slice ay p.b.length cy]
        have F1 : Fr (fun _ => False) wr (wr.alloc (.cells #[.slice ax p.o.length cx, .slice ay p.b.length cy] 107)) := (Fr.refl wr).alloc _
        have HPX1 := Lib.hid (HPX.out.old F1)
        have HPY1 := Lib.hid (HPY.out.old F1)
        have HR1 := Lib.hid (HR.out.old F1)
        have HF1 := Lib.hid (HF.out.trans F1)
        clear e1 e2 e1' e2' HPX HPY HF F1 HR
        generalize (wr.alloc (.cells #[.slice ax p.o.length cx, .slice ay p.b.length cy] 107)) = w1 at *
        have z0 := BZ.cell 0
        have z1 := BZ.cell 1
        simp at z0 z1
        go_wp2_with fail
        refine (whole_any _ _ p.o p.b w1 HPX1.out HPY1.out hpb).mono ?_
        rintro e w2 ⟨v2, rfl, hout, F2⟩
        have HR2 := Lib.hid (HR1.out.old F2)
        have HF2 := Lib.hid (HF1.out.trans F2)
        unfold wholeOut at hout
        have hlw1 : ∀ k, (Value.slice au j cu).ownBlock = some k → k < w1.heap.size := fun k hk => by
          obtain ⟨us, g1, _⟩ := HR1.out
          exact ((Vals.of_own g1).2 k hk).2
        have HLW := Lib.hid hlw1
        clear z0 z1 BZ HPX1 HPY1 HR1 HF1 F2 hlw1
        cases hq : attrS p.o p.b with
        | none =>
          rw [hq] at hout
          subst hout
          have hn : rdnS l = none := by rw [HN.out, HS.out, hsp.out, hq]; rfl
          have HNN := Lib.hid hn
          clear hn
          go_wp2_with fail
          refine bodyPost_ret (v := .tuple #[.slice none 0 0, .bool false]) (by simp [results, Tryz.results103, go_sem]) rfl ⟨⟨_, by rw [HNN.out]; rfl, fun ls e => by rw [HNN.out] at e; cases e⟩, HF2.out⟩
        | some x =>
          rw [hq] at hout
          have hsp1 := hsp.out
          rw [hq] at hsp1
          have hx0 : 0 < x.length ∧ x.length ≤ 1099511627776 := attr_len hq hpb
          have HO := Lib.hid hout
          obtain ⟨g2, c2, hgc, hv2⟩ : ∃ g c, w1.heap.size ≤ g ∧ v2 = .slice (some ⟨g, 0, none⟩) x.length c := by
            rcases hout.2 with ⟨rfl, h0⟩ | ⟨g, cap, cur, rfl, hg, _⟩
            · omega
            · exact ⟨g, cap, hg, rfl⟩
          subst hv2
          have HSP := Lib.hid hsp1
          clear hout hsp hsp1
          have hadd : ∀ w3, Fr (fun _ => False) w2 w3 → ∃ a5 c5 w5, (Builtin.append_ #[132, 132] 132 #[.slice au j cu, .slice (some ⟨w3.heap.size, 0, none⟩) 1 1]).run Tryz.prog (w3.alloc (.cells #[.slice (some ⟨g2, 0, none⟩) x.length c2] 22)) = .ok (.slice a5 (j + 1) c5) w5 ∧ Row w5 w.heap.size (.slice a5 (j + 1) c5) (ws ++ [x]) ∧ Fr (fun _ => False) w w5 := fun w3 F23 => by
            have F3 : Fr (fun _ => False) w2 (w3.alloc (.cells #[.slice (some ⟨g2, 0, none⟩) x.length c2] 22)) := F23.alloc _
            have hadd := Row.add (HR2.out.old F3) w3.heap.size (.slice (some ⟨g2, 0, none⟩) x.length c2) x (Blk.new w3 _ _) ((Vals.of_own HO.out).1.old F3) (fun k hk e => by
              simp only [Value.ownBlock, Option.some.injEq] at hk
              have := HLW.out k e
              omega) (by rw [HWS.out]; omega) (HF2.out.trans F3).size
            obtain ⟨a5, c5, w5, hrun, hrow, F5⟩ := hadd
            have G5 := (HF2.out.trans F3).trans' F5 (fun i hi e => by
              obtain ⟨us, g1, _⟩ := HR2.out
              have := ((Vals.of_own g1).2 i e).1
              omega)
            rw [HWS.out] at hrun hrow
            exact ⟨a5, c5, w5, hrun, hrow, G5⟩
          have HADD := Lib.hid hadd
          have hlen : (ws ++ [x]).length = j + 1 := by simp [HWS.out]
          have HLEN := Lib.hid hlen
          have hwl2 : ∀ y ∈ ws ++ [x], y.length ≤ 1099511627776 := fun y hy => by
            rcases List.mem_append.1 hy with h | h
            · exact hwl y h
            · rw [List.mem_singleton.1 h]; exact hx0.2
          have HWL2 := Lib.hid hwl2
          clear hadd hlen hwl2
          by_cases hj0 : j = 0
          · subst hj0
            have hw0 : ws = [] := List.length_eq_zero_iff.1 HWS.out
            have hnx := steps_next HS.out HSP.out (by rw [hw0]; rfl)
            have HNX := Lib.hid hnx
            obtain ⟨a5, c5, w5, hrun, hrow, G5⟩ := HADD.out w2 (Fr.refl _)
            have HRUN := Lib.hid hrun
            have HROW := Lib.hid hrow
            have HG5 := Lib.hid G5
            clear hnx hrun hrow G5
            go_wp2_with (at_builtin; refine wpList_append_run (by rfl) (.tmp 41) (.tmp 43) 132 (by rfl) _ w5 (by exact HRUN.out) ?_)
            go_roundg (l.length - (0 + 1))
            case measure => rw [HG.out]; omega
            case rel =>
              exact ⟨0 + 1, ws ++ [x], rfl, by omega, by go_num, HLEN.out, HWL2.out, HROW.out, HG5.out, HNX.out⟩
          · obtain ⟨us, g1, g2', g3⟩ := HR2.out
            obtain ⟨aR, cR, heR, hcR, hmR, hxR⟩ := (Vals.of_own g1).1
            rw [g2', HWS.out] at heR hcR hxR
            simp only [Value.slice.injEq, true_and] at heR
            obtain ⟨rfl, rfl⟩ := heR
            obtain ⟨bR, oR, rfl, hyR⟩ := hxR (by omega)
            obtain ⟨k, rfl⟩ : ∃ k, j = k + 1 := ⟨j - 1, by omega⟩
            have hws2 := HWS.out
            obtain ⟨uk, huk⟩ : ∃ u, us[k]? = some u := ⟨_, List.getElem?_eq_getElem (by omega)⟩
            obtain ⟨xk, hxk⟩ : ∃ x, ws[k]? = some x := ⟨_, List.getElem?_eq_getElem (by omega)⟩
            have ek := hyR k uk huk
            have hbk := (g3 k uk xk huk hxk).1
            have hlast : ws.getLast? = some xk := by rw [List.getLast?_eq_getElem?, hws2]; exact hxk
            have hsp2 := HSP.out
            rw [hlast] at hsp2
            obtain ⟨ak, ck, rfl, -⟩ := Vals.form hbk
            have t1 : IntKind.i64.wrap (((k + 1 : Nat) : Int) - 1) = (k : Int) := by simp [IntKind.wrap, IntKind.signed, IntKind.bits]; omega
            have t2 : (0 : Int) < ((k + 1 : Nat) : Int) := by omega
            have hck : xk.length ≤ 1099511627776 := hwl xk (List.mem_of_getElem? hxk)
            have HCM := Lib.hid (compare_any _ _ xk x w2 hbk (Vals.of_own HO.out).1 hck hx0.2)
            obtain ⟨cm, hcm⟩ : ∃ cm, cm = cmpS xk x := ⟨_, rfl⟩
            have HCC := Lib.hid hcm
            rw [← hcm] at HCM
            have hr3 : ∀ w3, Fr (fun _ => False) w2 w3 → True := fun _ _ => trivial
            have HLA := Lib.hid hlast
            clear hyR g1 g3 hxR hsp2 hwl hxk huk hlast hr3 hcm
            by_cases hge : 0 ≤ cm
            · have hn : rdnS l = none := by
                rw [HN.out, HS.out, HSP.out, HLA.out]
                simp [← HCC.out, hge]
              have HNN := Lib.hid hn
              clear hn
              go_wp2_with fail
              refine HCM.out.mono ?_
              rintro e w3 ⟨rfl, F3⟩
              go_wp2_with fail
              refine bodyPost_ret (v := .tuple #[.slice none 0 0, .bool false]) (by simp [results, Tryz.results103, go_sem]) rfl ⟨⟨_, by rw [HNN.out]; rfl, fun ls e => by rw [HNN.out] at e; cases e⟩, HF2.out.trans F3⟩
            · have hcond : (match ws.getLast? with | some y => decide (0 ≤ cmpS y x) | none => false) = false := by
                rw [HLA.out]
                simp only [← HCC.out]
                exact decide_eq_false hge
              have HNX := Lib.hid (steps_next HS.out HSP.out hcond)
              clear hcond
              go_wp2_with fail
              refine HCM.out.mono ?_
              rintro e w3 ⟨rfl, F3⟩
              obtain ⟨a5, c5, w5, hrun, hrow, G5⟩ := HADD.out w3 F3
              have HRUN := Lib.hid hrun
              have HROW := Lib.hid hrow
              have HG5 := Lib.hid G5
              clear hrun hrow G5
              go_wp2_with (at_builtin; refine wpList_append_run (by rfl) (.tmp 41) (.tmp 43) 132 (by rfl) _ w5 (by exact HRUN.out) ?_)
              go_roundg (l.length - (k + 1 + 1))
              case measure => rw [HG.out]; omega
              case rel =>
                exact ⟨k + 1 + 1, ws ++ [x], rfl, by omega, by go_num, HLEN.out, HWL2.out, HROW.out, HG5.out, HNX.out⟩
      · have hd : l.drop j = [] := List.drop_eq_nil_of_le (by omega)
        have hres : rdnS l = some ws := by rw [HN.out, HS.out, hd]; simp [stepsS]
        have HRES := Lib.hid hres
        clear hd hres
        go_wp2_with fail
        refine bodyPost_ret (v := .tuple #[.slice au j cu, .bool true]) (by simp [results, Tryz.results103, go_sem]) rfl ⟨⟨_, by rw [HRES.out]; rfl, fun ls e => ?_⟩, HF.out⟩
        rw [HRES.out] at e
        cases e
        exact HR.out
end Go.Proofs.YthjcoolefboodaaGreatDoor

namespace Go.Q
open Go Go.RowKit
def nameOk (n : List (List Part)) : Bool := decide (n.length ≤ 64) && n.all (fun r => (rdnS r).isSome)
end Go.Q
namespace Go.Proofs.YthjcoolefboodaaGreatDoor
open Go Go.RowKit Go.Q
set_option maxRecDepth 20000 in
set_option maxHeartbeats 2000000 in
theorem right_any (v : Value) (n : List (List Part)) (w : World) (h : NameAt w v n) (hf : ∀ r ∈ n, fewB r) :
    Calls Tryz.prog 73 #[v] w fun e w' => e = .returned (.bool (nameOk n)) ∧ Fr (fun _ => False) w w' := by
  have H := Lib.hid h
  obtain ⟨a, cap, rfl, hc, hm, -⟩ := h
  rcases Nat.lt_or_ge 64 n.length with hl | hl
  · have hn : nameOk n = false := by unfold nameOk; rw [decide_eq_false (by omega), Bool.false_and]
    have HN := Lib.hid hn
    have q1 : (64 : Int) < (n.length : Int) := by omega
    clear hn
    go_enter Tryz.func73, Tryz.ntmps73
    go_wp2_with fail
    go_ret
    exact ⟨by rw [HN.out]; rfl, Fr.refl _⟩
  · have hn : nameOk n = n.all (fun r => (rdnS r).isSome) := by unfold nameOk; rw [decide_eq_true hl, Bool.true_and]
    have HN := Lib.hid hn
    have q1 : ¬ (64 : Int) < (n.length : Int) := by omega
    clear hn
    go_enter Tryz.func73, Tryz.ntmps73
    go_wp2_with fail
    go_loopg [12] n.length (fun g i wr => ∃ j : Nat, g = n.length - j ∧ j ≤ n.length ∧ i = .int .i64 j ∧ (∀ r ∈ n.take j, (rdnS r).isSome = true) ∧ Fr (fun _ => False) w wr)
    case atStart => exact ⟨0, rfl, Nat.zero_le _, rfl, by simp, Fr.refl _⟩
    case round =>
      obtain ⟨j, hg, hj, rfl, he, F⟩ := hrel
      have HG := Lib.hid hg
      have HE := Lib.hid he
      have HF := Lib.hid F
      clear hg he
      by_cases hjl : j < n.length
      · obtain ⟨a0, cap0, he, _, _, hx⟩ := H.out.old F
        simp only [Value.slice.injEq, true_and] at he
        obtain ⟨rfl, rfl⟩ := he
        obtain ⟨b, off, rfl, hy⟩ := hx (by omega)
        obtain ⟨r, hr⟩ : ∃ r, n[j]? = some r := ⟨_, List.getElem?_eq_getElem hjl⟩
        obtain ⟨x, e1, hA⟩ := hy j r hr
        have r1 : (0 : Int) ≤ (j : Int) := by omega
        have r2 : (j : Int) < (n.length : Int) := by omega
        have HW := Lib.hid (wholesRdn_any x r wr hA (hf r (List.mem_of_getElem? hr)))
        have HR := Lib.hid hr
        clear hx hy hr hA F
        obtain ⟨o, ho⟩ : ∃ o, o = (rdnS r).isSome := ⟨_, rfl⟩
        have HO := Lib.hid ho
        rw [← ho] at HW
        clear ho
        go_wp2_with fail
        refine HW.out.mono ?_
        rintro e w2 ⟨⟨v2, rfl, -⟩, F2⟩
        have G2 := HF.out.trans F2
        clear HF F2
        cases o with
        | false =>
          have hn : n.all (fun r => (rdnS r).isSome) = false := by
            rw [List.all_eq_false]
            exact ⟨r, List.mem_of_getElem? HR.out, by rw [← HO.out]; simp⟩
          have HNN := Lib.hid hn
          clear hn
          go_wp2_with fail
          go_ret
          exact ⟨by rw [HN.out, HNN.out]; rfl, G2⟩
        | true =>
          go_wp2_with fail
          go_roundg (n.length - (j + 1))
          case measure => rw [HG.out]; omega
          case rel =>
            refine ⟨j + 1, rfl, by omega, by go_num, fun s hs => ?_, G2⟩
            rw [List.take_add_one, HR.out] at hs
            rcases List.mem_append.1 hs with h | h
            · exact HE.out s h
            · simp at h
              rw [h, ← HO.out]
      · have hall : n.all (fun r => (rdnS r).isSome) = true := by
          rw [List.all_eq_true]
          have := HE.out
          rwa [List.take_of_length_le (by omega)] at this
        have HNN := Lib.hid hall
        clear hall
        go_wp2_with fail
        go_ret
        exact ⟨by rw [HN.out, HNN.out]; rfl, F⟩
end Go.Proofs.YthjcoolefboodaaGreatDoor

namespace Go.Q
open Go Go.RowKit
end Go.Q

namespace Go.Q
open Go Go.RowKit
abbrev str (l : List UInt8) : Value := .string ⟨l.toArray⟩
theorem ba_cat (a b : List UInt8) : (ByteArray.mk a.toArray ++ ByteArray.mk b.toArray) = ByteArray.mk (a ++ b).toArray := by
  apply ByteArray.ext
  rw [ByteArray.data_append]
  simp
end Go.Q
namespace Go.Proofs.YthjcoolefboodaaGreatDoor
open Go Go.RowKit Go.Q
theorem str_of {w : World} {v : Value} {l : List UInt8} (h : Bytes w v l) : (Go.convert 22 9 v).run Tryz.prog w = .ok (str l) w := by
  obtain ⟨a, cap, rfl, hc, hm, hx⟩ := h.form
  rcases Nat.eq_zero_or_pos l.length with h0 | h0
  · obtain rfl : l = [] := List.length_eq_zero_iff.1 h0
    exact run_convert_bytes_zero w 22 5 Tryz.underlying22 Tryz.underlying5 a cap 9 Tryz.underlying9
  · obtain ⟨b, o, rfl, hy⟩ := hx h0
    exact run_convert_bytes_back w 22 9 5 _ cap l Tryz.underlying22 Tryz.underlying5 Tryz.underlying9 (fun j hj => by
      rw [show (⟨b, o, none⟩ : Addr).add j = ⟨b, o + j, none⟩ from by unfold Addr.add; split <;> simp_all]
      exact hy j _ (List.getElem?_eq_getElem hj))
theorem bytes_of_str (w : World) (l : List UInt8) (hl : l.length ≤ 1099511627776) : ∃ c w', (Go.convert 9 22 (str l)).run Tryz.prog w = .ok (.slice (some ⟨w.heap.size, 0, none⟩) l.length c) w' ∧ Bytes w' (.slice (some ⟨w.heap.size, 0, none⟩) l.length c) l ∧ Fr (fun _ => False) w w' ∧ w'.heap.size = w.heap.size + 1 := by
  have hr := Lib.run_convert_string_bytes (P := Tryz.prog) w 9 22 5 ⟨l.toArray⟩ Tryz.underlying9 Tryz.underlying22 Tryz.underlying5
  have hs : (ByteArray.mk l.toArray).size = l.length := by simp [ByteArray.size]
  rw [hs] at hr
  refine ⟨_, _, hr, ?_, ⟨rfl, rfl, rfl, by rw [Lib.bytesWorld_size]; omega, fun k hk _ => Lib.bytesWorld_at_old _ _ _ _ hk⟩, Lib.bytesWorld_size _ _ _⟩
  refine ⟨_, _, by rw [byteCells_len], ?_, ?_, fun _ => ⟨w.heap.size, 0, rfl, fun i u hu => ?_⟩⟩
  · rw [byteCells_len]; exact grownCap_ge _ _ _ _
  · exact grownCap_le_maxLen _ _ _ _ (by unfold maxLen; omega)
  · rw [byteCells_get] at hu
    cases hli : l[i]? with
    | none => rw [hli] at hu; cases hu
    | some x =>
      rw [hli] at hu
      simp only [Option.map_some, Option.some.injEq] at hu
      subst hu
      have hi := (List.getElem?_eq_some_iff.1 hli).1
      rw [Nat.zero_add, Lib.bytesWorld_cell _ _ _ _ (by rw [hs]; exact hi)]
      simp [List.getD_eq_getElem?_getD, hli]
end Go.Proofs.YthjcoolefboodaaGreatDoor
