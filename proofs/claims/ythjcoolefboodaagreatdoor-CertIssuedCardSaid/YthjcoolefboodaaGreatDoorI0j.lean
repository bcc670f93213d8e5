/-
  Merged by program: XNLibS XNOidN XNOidF XNFold XNFold2 XNUtf8 XNHex XNWords XNStep XNameOf XNConcat XNRdnK.
-/
import Derived.Test.YthjcoolefboodaaGreatDoorI0i
import Derived.Sort.OwnSorted
import Derived.Lib.Split
import Derived.Lib.RowBridge
import Derived.Test.YthjcoolefboodaaGreatDoorI0e
import Derived.Test.YthjcoolefboodaaGreatDoorI0a
import Derived.Test.YthjcoolefboodaaGreatDoorI0h
import Derived.Test.YthjcoolefboodaaGreatDoorI0d
import Derived.Lib.AppendZerosOnto
import Derived.Lib.SliceRun
import Derived.Lib.Walk
namespace Go.Q
open Go Go.RowKit
abbrev Strs (w : World) (v : Value) (ks : List (List UInt8)) : Prop := Vals w v (ks.map str)
theorem Strs.form {w : World} {v : Value} {ks : List (List UInt8)} (h : Strs w v ks) : ∃ a cap, v = .slice a ks.length cap ∧ ks.length ≤ cap ∧ cap ≤ maxLen ∧ (0 < ks.length → ∃ b o, a = some ⟨b, o, none⟩ ∧ ∀ i x, ks[i]? = some x → w.cell? ⟨b, o + i, none⟩ = some (str x)) := by
  obtain ⟨a, cap, rfl, hc, hm, h⟩ := h
  rw [List.length_map] at hc h ⊢
  refine ⟨a, cap, rfl, hc, hm, fun h0 => ?_⟩
  obtain ⟨b, o, rfl, hx⟩ := h h0
  exact ⟨b, o, rfl, fun i x hxx => hx i _ (by rw [List.getElem?_map, hxx]; rfl)⟩
def sortS (ks : List (List UInt8)) : List (List UInt8) := ks.mergeSort fun x y => decide (x ≤ y)
end Go.Q
namespace Go.Proofs.YthjcoolefboodaaGreatDoor
open Go Go.RowKit Go.Q
theorem strJoin_any (ks : List (List UInt8)) (c : UInt8) (v : Value) (w : World) (h : Strs w v ks) (hn : ks.length ≤ 109951162777) (hl : (Lib.join ks [c]).length ≤ 100000000000000) :
    Calls Tryz.prog 75 #[v, str [c]] w fun e w' => e = .returned (str (Lib.join ks [c])) ∧ Fr (fun _ => False) w w' := by
  obtain ⟨a, cap, rfl, hc, hm, hx⟩ := Strs.form h
  rcases Nat.eq_zero_or_pos ks.length with h0 | h0
  · obtain rfl : ks = [] := List.length_eq_zero_iff.1 h0
    refine (Go.Proofs.Tryz.strings_Join_none a cap ⟨[c].toArray⟩ w).mono ?_
    rintro e w' ⟨rfl, rfl⟩
    exact ⟨rfl, Fr.refl _⟩
  · obtain ⟨b, o, rfl, hy⟩ := hx h0
    have hmm : (ks.map (fun k => (⟨k.toArray⟩ : ByteArray))).map (·.data.toList) = ks := by
      rw [List.map_map]
      exact (List.map_congr_left (fun x _ => rfl)).trans (List.map_id ks)
    have H := Go.Proofs.Tryz.strings_Join b o cap (ks.map (fun k => ⟨k.toArray⟩)) ⟨[c].toArray⟩ w (fun j x hj => by
      rw [List.getElem?_map] at hj
      cases hk : ks[j]? with
      | none => rw [hk] at hj; cases hj
      | some y =>
        rw [hk] at hj
        simp only [Option.map_some, Option.some.injEq] at hj
        subst hj
        exact hy j y hk) (World.block_lt_of_cell? w _ (hy 0 _ (List.getElem?_eq_getElem h0))) (by simpa using Nat.le_trans hn (by decide)) (by simpa using hc) (by rw [hmm]; exact Nat.le_trans hl (by decide))
    rw [hmm, List.length_map] at H
    refine H.mono ?_
    rintro e w' ⟨rfl, hb⟩
    exact ⟨rfl, Fr.of_below hb⟩
theorem strSort_any {w : World} {base : Nat} {v : Value} (ks : List (List UInt8)) (hown : w.ownsRow base 9 1 v ks.length (ks.map str)) (hn : ks.length ≤ 109951162777) :
    Calls Tryz.prog 105 #[v] w fun e w' => e = .returned (.tuple #[]) ∧ w'.ownsRow base 9 1 v (sortS ks).length ((sortS ks).map str) ∧ Fr (fun k => v.ownBlock = some k) w w' := by
  have hsl : (sortS ks).length = ks.length := by simp [sortS]
  rcases hown.2 with ⟨rfl, h0⟩ | ⟨g, cap, cur, rfl, hg, hh, hnc, hcm, hcs, htk⟩
  · refine (Go.Proofs.Tryz.slices_Sort_string_none none 0 w).mono ?_
    rintro e w' ⟨rfl, rfl⟩
    obtain rfl : ks = [] := List.length_eq_zero_iff.1 h0
    exact ⟨rfl, by simpa [sortS] using hown, Fr.refl _⟩
  · have hH := Go.holds_of_block (ss := ks) hh (by rw [Nat.mul_one] at htk; exact htk)
    refine (Go.Proofs.Tryz.slices_Sort_string g 0 cap ks w hH (Array.getElem?_eq_some_iff.1 hh).1 (by omega)).mono ?_
    rintro e w' ⟨rfl, n, os, rfl⟩
    refine ⟨rfl, ?_, ?_⟩
    · rw [hsl]
      exact Go.ownsRow_sorted (ts := sortS ks) hsl hg hh hnc hcm hcs
    · have f := Fr.of_grown (Go.grownBy_sorted (w := w) (g := g) (n := n) (os := os) (sortS ks).toArray)
      exact f
theorem strCompact_any {w : World} {base : Nat} {v : Value} (ks : List (List UInt8)) (hown : w.ownsRow base 9 1 v ks.length (ks.map str)) (hn : ks.length ≤ 109951162777) :
    Calls Tryz.prog 106 #[v] w fun e w' => (∃ v', e = .returned v' ∧ w'.ownsRow base 9 1 v' (Lib.compact ks).length ((Lib.compact ks).map str)) ∧ Fr (fun k => v.ownBlock = some k) w w' := by
  rcases hown.2 with ⟨rfl, h0⟩ | ⟨g, cap, cur, rfl, hg, hh, hnc, hcm, hcs, htk⟩
  · refine (Go.Proofs.Tryz.slices_Compact_string_empty none 0 w).mono ?_
    rintro e w' ⟨rfl, rfl⟩
    obtain rfl : ks = [] := List.length_eq_zero_iff.1 h0
    exact ⟨⟨_, rfl, hown⟩, Fr.refl _⟩
  · rw [Nat.mul_one] at htk hcs
    have hH := Go.holds_of_block (ss := ks) hh htk
    refine (Go.Proofs.Tryz.slices_Compact_string g 0 cap ks w hH (by omega) hnc).mono ?_
    rintro e w' ⟨rfl, q, rfl⟩
    have hcl := Lib.compact_length_le ks
    have hl2 : (Lib.compact ks ++ List.replicate (ks.length - (Lib.compact ks).length) ([] : List UInt8)).length = ks.length := by
      rw [List.length_append, List.length_replicate]; omega
    have hb := Go.heap_sorted (n := q) (os := #[]) (Lib.compact ks ++ List.replicate (ks.length - (Lib.compact ks).length) ([] : List UInt8)).toArray hh
    have f := Fr.of_grown (Go.grownBy_sorted (w := w) (g := g) (n := q) (os := #[]) (Lib.compact ks ++ List.replicate (ks.length - (Lib.compact ks).length) ([] : List UInt8)).toArray)
    rw [Sort.grow_empty] at hb f
    have ht := Go.take_putCells cur (Lib.compact ks ++ List.replicate (ks.length - (Lib.compact ks).length) ([] : List UInt8)) (by omega)
    refine ⟨⟨_, rfl, by simp, .inr ⟨g, cap, _, rfl, hg, hb, by omega, hcm, by simp [Sort.putCells, hcs], ?_⟩⟩, f⟩
    rw [Nat.mul_one]
    have h3 := congrArg (List.take (Lib.compact ks).length) ht
    rw [List.take_take, hl2, Nat.min_eq_left hcl, ← List.map_take, List.take_left] at h3
    exact h3
end Go.Proofs.YthjcoolefboodaaGreatDoor

namespace Go.Q
open Go Go.RowKit
end Go.Q
namespace Go.Proofs.YthjcoolefboodaaGreatDoor
open Go Go.RowKit Go.Q
end Go.Proofs.YthjcoolefboodaaGreatDoor

namespace Go.Q
open Go Go.RowKit
end Go.Q
namespace Go.Proofs.YthjcoolefboodaaGreatDoor
open Go Go.RowKit Go.Q
end Go.Proofs.YthjcoolefboodaaGreatDoor

namespace Go.Q
open Go Go.RowKit
def blankB (n : Int) : Bool := decide (n = 32 ∨ (9 ≤ n ∧ n ≤ 13))
def smallS (n : Int) : Int := if 65 ≤ n ∧ n ≤ 90 then n + 32 else n
def foldStep (s : List Int × Bool) (n : Int) : List Int × Bool :=
  if blankB n = true then (s.1, decide (0 < s.1.length)) else ((if s.2 = true then s.1 ++ [32] else s.1) ++ [smallS n], false)
def foldS (l : List Int) : List Int := (l.foldl foldStep ([], false)).1
def FoldAt (w : World) (g d base : Nat) (s : List Int × Bool) : Prop :=
  ∃ v, Blk w g 26 #[v] ∧ Blk w d 4 #[.bool s.2] ∧ w.ownsRow base 3 1 v s.1.length (intCells s.1) ∧ (∀ k, v.ownBlock = some k → k ≠ g ∧ k ≠ d)
end Go.Q
namespace Go.Proofs.YthjcoolefboodaaGreatDoor
open Go Go.RowKit Go.Q
theorem blank_any (n : Int) (w : World) :
    Calls Tryz.prog 205 #[.int .i64 n] w fun e w' => e = .returned (.bool (blankB n)) ∧ w = w' := by
  have hc : n = 32 ∨ (n ≠ 32 ∧ n < 9) ∨ (9 ≤ n ∧ n ≤ 13) ∨ (n ≠ 32 ∧ 13 < n) := by omega
  rcases hc with rfl | ⟨h1, h2⟩ | ⟨h1, h2⟩ | ⟨h1, h2⟩
  · go_enter Tryz.func205, Tryz.ntmps205
    go_wp2_with fail
    go_ret
    exact ⟨rfl, rfl⟩
  · have hb : blankB n = false := decide_eq_false (by omega)
    have HB := Lib.hid hb
    have q1 : (n == 32) = false := beq_eq_false_iff_ne.2 h1
    have q2 : ¬ (9 : Int) ≤ n := by omega
    clear hb
    go_enter Tryz.func205, Tryz.ntmps205
    go_wp2_with fail
    go_ret
    exact ⟨by rw [HB.out]; rfl, rfl⟩
  · have hb : blankB n = true := decide_eq_true (by omega)
    have HB := Lib.hid hb
    have q1 : (n == 32) = false := beq_eq_false_iff_ne.2 (by omega)
    clear hb
    go_enter Tryz.func205, Tryz.ntmps205
    go_wp2_with fail
    go_ret
    exact ⟨by rw [HB.out]; rfl, rfl⟩
  · have hb : blankB n = false := decide_eq_false (by omega)
    have HB := Lib.hid hb
    have q1 : (n == 32) = false := beq_eq_false_iff_ne.2 h1
    have q2 : (9 : Int) ≤ n := by omega
    have q3 : ¬ n ≤ (13 : Int) := by omega
    clear hb
    go_enter Tryz.func205, Tryz.ntmps205
    go_wp2_with fail
    go_ret
    exact ⟨by rw [HB.out]; rfl, rfl⟩
theorem small_any (n : Int) (w : World) :
    Calls Tryz.prog 206 #[.int .i64 n] w fun e w' => e = .returned (.int .i64 (smallS n)) ∧ w = w' := by
  by_cases h1 : (65 : Int) ≤ n
  · by_cases h2 : n ≤ (90 : Int)
    · have hb : smallS n = n + 32 := if_pos ⟨h1, h2⟩
      have HB := Lib.hid hb
      clear hb
      go_enter Tryz.func206, Tryz.ntmps206
      go_wp2_with fail
      go_ret
      exact ⟨by rw [HB.out]; rfl, rfl⟩
    · have hb : smallS n = n := if_neg (by omega)
      have HB := Lib.hid hb
      clear hb
      go_enter Tryz.func206, Tryz.ntmps206
      go_wp2_with fail
      go_ret
      exact ⟨by rw [HB.out]; rfl, rfl⟩
  · have hb : smallS n = n := if_neg (by omega)
    have HB := Lib.hid hb
    clear hb
    go_enter Tryz.func206, Tryz.ntmps206
    go_wp2_with fail
    go_ret
    exact ⟨by rw [HB.out]; rfl, rfl⟩
set_option maxRecDepth 20000 in
set_option maxHeartbeats 1000000 in
theorem foldPut_any {w : World} {base : Nat} (n : Int) (g d : Nat) (s : List Int × Bool) (hgd : g ≠ d) (h : FoldAt w g d base s) (hb : base ≤ w.heap.size) (hm : s.1.length ≤ 10995116277) :
    Calls Tryz.prog 204 #[.int .i64 n, pt g, pt d] w fun e w' => e = .returned (.tuple #[]) ∧ FoldAt w' g d base (foldStep s n) ∧ Fr (fun k => k = g ∨ k = d ∨ base ≤ k) w w' := by
  obtain ⟨xs, due⟩ := s
  obtain ⟨v, BG, BD, hown, ho⟩ := h
  simp only at BG BD hown hm
  obtain ⟨a, m, c, rfl, rfl⟩ := own_shape hown
  have HOWN := Lib.hid hown
  have hbase := (Vals.of_own hown).2
  have HBA := Lib.hid hbase
  have g0 := BG.cell 0
  have g1 := BG.frozen 0
  have d0 := BD.cell 0
  have d1 := BD.frozen 0
  simp at g0 d0
  cases hbl : blankB n with
  | true =>
    have HB := Lib.hid (blank_any n w)
    rw [hbl] at HB
    have hst : foldStep (xs, due) n = (xs, decide (0 < xs.length)) := by unfold foldStep; rw [hbl]; rfl
    have HST := Lib.hid hst
    clear hst hown hbase hbl
    have hd : ∀ z : Bool, decide (0 < xs.length) = z → FoldAt (w.setCell ⟨d, 0, none⟩ (.bool z)) g d base (foldStep (xs, due) n) ∧ Fr (fun k => k = g ∨ k = d ∨ base ≤ k) w (w.setCell ⟨d, 0, none⟩ (.bool z)) := by
      intro z hz
      have F : Fr (fun k => k = d) w (w.setCell ⟨d, 0, none⟩ (.bool z)) := Fr.setCell (S := fun k => k = d) (p := ⟨d, 0, none⟩) (Fr.refl w) (fun _ => rfl) _
      have BD2 := BD.set 0 (.bool z)
      simp at BD2
      rw [HST.out, hz]
      exact ⟨⟨_, BG.fr F hgd, BD2, ownsRow_fr HOWN.out F (fun k hk e => (ho k hk).2 e), ho⟩, F.mono (fun _ _ h => .inr (.inl h))⟩
    have HD := Lib.hid hd
    clear hd
    go_enter Tryz.func204, Tryz.ntmps204
    go_wp2_with fail
    refine HB.out.mono ?_
    rintro e w' ⟨rfl, rfl⟩
    go_wp2_with fail
    refine bodyPost_ret (results_none rfl _ _ _) rfl ?_
    exact ⟨rfl, HD.out _ rfl⟩
  | false =>
    have HB := Lib.hid (blank_any n w)
    rw [hbl] at HB
    have last : ∀ (w3 : World) (v3 : Value) (m3 : Nat) (ys : List Int), Blk w3 g 26 #[v3] → Blk w3 d 4 #[.bool false] → w3.ownsRow base 3 1 v3 m3 (intCells ys) → (∀ k, v3.ownBlock = some k → k ≠ g ∧ k ≠ d) → base ≤ w3.heap.size → m3 ≤ 10995116278 → Fr (fun k => k = g ∨ k = d ∨ base ≤ k) w w3 → foldStep (xs, due) n = (ys ++ [smallS n], false) →
        ∃ a c w', (Builtin.append_ #[26, 26] 26 #[v3, .slice (some ⟨w3.heap.size, 0, none⟩) 1 1]).run Tryz.prog ((w3.alloc (.cells #[.int .i64 (smallS n)] 3)).drew) = .ok (.slice a (m3 + 1) c) w' ∧ Blk w' g 26 #[v3] ∧ FoldAt (w'.setCell ⟨g, 0, none⟩ (.slice a (m3 + 1) c)) g d base (foldStep (xs, due) n) ∧ Fr (fun k => k = g ∨ k = d ∨ base ≤ k) w (w'.setCell ⟨g, 0, none⟩ (.slice a (m3 + 1) c)) := by
      intro w3 v3 m3 ys BG3 BD3 own3 ho3 hb3 hm3 F3 hst
      have F4 : Fr (fun _ => False) w3 ((w3.alloc (.cells #[.int .i64 (smallS n)] 3)).drew) := ((Fr.refl w3).alloc _).drew
      obtain ⟨a, c, w', hrun, own', F5, hk5⟩ := add_int own3 hb3 (by omega) (smallS n) w3.heap.size F4 (Blk.new w3 3 #[.int .i64 (smallS n)]).drew
      have BG5 := BG3.fr F5 (fun e => (ho3 g e).1 rfl)
      have BD5 := BD3.fr F5 (fun e => (ho3 d e).2 rfl)
      have lg := BG3.lt
      have ld := BD3.lt
      have hne : ∀ k, (Value.slice a (m3 + 1) c).ownBlock = some k → k ≠ g ∧ k ≠ d := fun k hk => by
        rcases hk5 k hk with h | h
        · exact ho3 k h
        · exact ⟨by omega, by omega⟩
      have F6 : Fr (fun k => k = g) w' (w'.setCell ⟨g, 0, none⟩ (.slice a (m3 + 1) c)) := Fr.setCell (S := fun k => k = g) (p := ⟨g, 0, none⟩) (Fr.refl w') (fun _ => rfl) _
      have BG6 := BG5.set 0 (.slice a (m3 + 1) c)
      simp at BG6
      have hlen : m3 + 1 = (ys ++ [smallS n]).length := by
        have := own3.1
        rw [intCells_len, Nat.mul_one] at this
        simp [this]
      refine ⟨a, c, w', hrun, BG5, ?_, (F3.trans (F5.mono (fun k hk e => ?_))).trans (F6.mono (fun _ _ h => .inl h))⟩
      · rw [hst]
        refine ⟨_, BG6, BD5.fr F6 (fun e => hgd e.symm), ?_, hne⟩
        simp only
        rw [← hlen]
        exact ownsRow_fr own' F6 (fun k hk e => (hne k hk).1 e)
      · exact .inr (.inr ((Vals.of_own own3).2 k e).1)
    have HL := Lib.hid last
    clear last
    cases due with
    | false =>
      have hst : foldStep (xs, false) n = (xs ++ [smallS n], false) := by unfold foldStep; rw [hbl]; rfl
      obtain ⟨a7, c7, w7, hrun, BG7, hfin, hF7⟩ := HL.out w _ xs.length xs BG BD HOWN.out ho hb (by omega) (Fr.refl w) hst
      have HRUN := Lib.hid hrun
      have HFIN := Lib.hid hfin
      have HF7 := Lib.hid hF7
      have g7 := BG7.cell 0
      have f7 := BG7.frozen 0
      have hal := alloc_old
      have lg := BG.lt
      simp at g7
      clear hst hrun hfin hF7 hown hbase hbl
      go_enter Tryz.func204, Tryz.ntmps204
      go_wp2_with fail
      refine HB.out.mono ?_
      rintro e w' ⟨rfl, rfl⟩
      go_wp2_with fail
      go_region_law (first | (refine step_append_run (by rfl) (.tmp 13) (.tmp 16) 26 (by rfl) _ w7 (by exact HRUN.out) ?_) | (go_simp; go_at_call 206; refine (small_any n _).mono ?_; rintro e w' ⟨rfl, rfl⟩))
      all_goals
        go_wp2_with fail
        go_end0
        exact ⟨rfl, HFIN.out, HF7.out⟩
    | true =>
      have hst : foldStep (xs, true) n = ((xs ++ [32]) ++ [smallS n], false) := by unfold foldStep; rw [hbl]; rfl
      have F1 : Fr (fun _ => False) w (w.alloc (.cells #[.int .i64 32] 3)) := (Fr.refl w).alloc _
      obtain ⟨a1, c1, w1, hrun1, own1, F2, hk1⟩ := add_int HOWN.out hb (by omega) 32 w.heap.size F1 (Blk.new w 3 #[.int .i64 32])
      have lg := BG.lt
      have ld := BD.lt
      have BG1 := BG.fr F2 (fun e => (ho g e).1 rfl)
      have BD1 := BD.fr F2 (fun e => (ho d e).2 rfl)
      have hne : ∀ k, (Value.slice a1 (xs.length + 1) c1).ownBlock = some k → k ≠ g ∧ k ≠ d := fun k hk => by
        rcases hk1 k hk with h | h
        · exact ho k h
        · exact ⟨by omega, by omega⟩
      have F3 : Fr (fun k => k = g ∨ k = d) w1 ((w1.setCell ⟨g, 0, none⟩ (.slice a1 (xs.length + 1) c1)).setCell ⟨d, 0, none⟩ (.bool false)) := ((Fr.refl w1).setCell (p := ⟨g, 0, none⟩) (fun _ => .inl rfl) _).setCell (p := ⟨d, 0, none⟩) (fun _ => .inr rfl) _
      have BG3 := (BG1.set 0 (.slice a1 (xs.length + 1) c1)).set_other (a := ⟨d, 0, none⟩) hgd (.bool false)
      have BD3 := (BD1.set_other (a := ⟨g, 0, none⟩) (fun e => hgd e.symm) (.slice a1 (xs.length + 1) c1)).set 0 (.bool false)
      simp at BG3 BD3
      have own3 := ownsRow_fr own1 F3 (fun k hk e => by have := hne k hk; omega)
      have G3 : Fr (fun k => k = g ∨ k = d ∨ base ≤ k) w ((w1.setCell ⟨g, 0, none⟩ (.slice a1 (xs.length + 1) c1)).setCell ⟨d, 0, none⟩ (.bool false)) := (F2.mono (fun k hk e => .inr (.inr (HBA.out k e).1))).trans (F3.mono (fun k _ h => h.elim .inl (fun h => .inr (.inl h))))
      obtain ⟨a7, c7, w7, hrun, BG7, hfin, hF7⟩ := HL.out _ _ (xs.length + 1) (xs ++ [32]) BG3 BD3 own3 hne (Nat.le_trans hb G3.size) (by omega) G3 hst
      have HRUN1 := Lib.hid hrun1
      have HRUN := Lib.hid hrun
      have HFIN := Lib.hid hfin
      have HF7 := Lib.hid hF7
      have HBG3 := Lib.hid BG3
      have p0 := BG1.cell 0
      have p1 := BG1.frozen 0
      have r0 := BD1.cell 0
      have r1 := BD1.frozen 0
      have g7 := BG7.cell 0
      have f7 := BG7.frozen 0
      simp at g7 p0 r0
      clear hst hrun hrun1 hfin hF7 hown hbase hbl own1 own3 BG3 BD3 F3 G3 F2 F1 BG1 BD1 hk1 hne
      go_enter Tryz.func204, Tryz.ntmps204
      go_wp2_with fail
      refine HB.out.mono ?_
      rintro e w' ⟨rfl, rfl⟩
      have hgd' : d ≠ g := fun e => hgd e.symm
      go_upto_region 5 with (at_builtin; refine wpList_append_run (by rfl) (.tmp 10) (.tmp 11) 26 (by rfl) _ w1 (by exact HRUN1.out) ?_)
      generalize ((w1.setCell ⟨g, 0, none⟩ (.slice a1 (xs.length + 1) c1)).setCell ⟨d, 0, none⟩ (.bool false)) = w3 at *
      have g3 := HBG3.out.cell 0
      have hal := alloc_old
      have lg3 := HBG3.out.lt
      simp at g3
      go_region_law (first | (refine step_append_run (by rfl) (.tmp 13) (.tmp 16) 26 (by rfl) _ w7 (by exact HRUN.out) ?_) | (go_simp; go_at_call 206; refine (small_any n _).mono ?_; rintro e w' ⟨rfl, rfl⟩))
      all_goals
        go_wp2_with fail
        go_end0
        exact ⟨rfl, HFIN.out, HF7.out⟩
end Go.Proofs.YthjcoolefboodaaGreatDoor

namespace Go.Q
open Go Go.RowKit
def foldAcc (l : List Int) : List Int × Bool := l.foldl foldStep ([], false)
theorem foldAcc_take {l : List Int} {j : Nat} {n : Int} (h : l[j]? = some n) : foldAcc (l.take (j + 1)) = foldStep (foldAcc (l.take j)) n := by
  unfold foldAcc
  rw [List.take_add_one, h]
  simp [List.foldl_append]
theorem foldStep_len (s : List Int × Bool) (n : Int) : (foldStep s n).1.length ≤ s.1.length + 2 := by
  unfold foldStep
  split
  · simp
  · split <;> simp
theorem foldAcc_len (l : List Int) : (foldAcc l).1.length ≤ 2 * l.length := by
  have : ∀ (l : List Int) (s : List Int × Bool), (l.foldl foldStep s).1.length ≤ s.1.length + 2 * l.length := by
    intro l
    induction l with
    | nil => intro s; simp
    | cons n l ih =>
      intro s
      have h1 := ih (foldStep s n)
      have h2 := foldStep_len s n
      simp only [List.foldl_cons, List.length_cons]
      omega
  have h := this l ([], false)
  simpa [foldAcc] using h
end Go.Q
namespace Go.Proofs.YthjcoolefboodaaGreatDoor
open Go Go.RowKit Go.Q
set_option maxRecDepth 20000 in
set_option maxHeartbeats 1000000 in
theorem foldSigns_any (v : Value) (l : List Int) (w : World) (h : Ints w v l) (hl : l.length ≤ 1099511627) :
    Calls Tryz.prog 171 #[v] w fun e w' => (∃ u, e = .returned u ∧ w'.ownsRow w.heap.size 3 1 u (foldS l).length (intCells (foldS l))) ∧ Fr (fun _ => False) w w' := by
  have H := Lib.hid h
  obtain ⟨a, cap, rfl, -⟩ := Ints.form h
  obtain ⟨z, hz⟩ : ∃ z, z = w.heap.size := ⟨_, rfl⟩
  have HZ := Lib.hid hz
  have F0 : Fr (fun _ => False) w ((w.alloc (.cells #[.slice none 0 0] 26)).alloc (.cells #[.bool false] 4)) := ((Fr.refl w).alloc _).alloc _
  have BG0 := (Blk.new w 26 #[.slice none 0 0]).alloc (.cells #[.bool false] 4)
  have BD0 := Blk.new (w.alloc (.cells #[.slice none 0 0] 26)) 4 #[.bool false]
  have hs0 : ((w.alloc (.cells #[.slice none 0 0] 26)).alloc (.cells #[.bool false] 4)).heap.size = z + 2 := by rw [World.size_alloc, World.size_alloc, hz]
  rw [World.size_alloc, ← hz] at BD0
  rw [← hz] at BG0
  have A0 : FoldAt ((w.alloc (.cells #[.slice none 0 0] 26)).alloc (.cells #[.bool false] 4)) z (z + 1) (z + 2) ([], false) := ⟨_, BG0, BD0, ⟨rfl, .inl ⟨rfl, rfl⟩⟩, fun k hk => by simp [Value.ownBlock] at hk⟩
  have HA0 := Lib.hid A0
  have HF0 := Lib.hid F0
  have HS0 := Lib.hid hs0
  clear h hz F0 BG0 BD0 A0 hs0
  go_enter Tryz.func171, Tryz.ntmps171
  go_upto_region 4 with fail
  rw [← HZ.out]
  generalize ((w.alloc (.cells #[.slice none 0 0] 26)).alloc (.cells #[.bool false] 4)) = w1 at *
  go_wp2_with fail
  go_loopg [11] l.length (fun g i wr => ∃ j : Nat, g = l.length - j ∧ j ≤ l.length ∧ i = .int .i64 j ∧ FoldAt wr z (z + 1) (z + 2) (foldAcc (l.take j)) ∧ Fr (fun _ => False) w wr ∧ z + 2 ≤ wr.heap.size)
  case atStart => exact ⟨0, rfl, Nat.zero_le _, rfl, HA0.out, HF0.out, by have := HS0.out; omega⟩
  case round =>
    obtain ⟨j, hg, hj, rfl, hA, F, hsz⟩ := hrel
    have HG := Lib.hid hg
    have HA := Lib.hid hA
    have HF := Lib.hid F
    clear hg hA F
    by_cases hjl : j < l.length
    · obtain ⟨a0, cap0, he, _, _, hx⟩ := Ints.form (H.out.old HF.out)
      simp only [Value.slice.injEq, true_and] at he
      obtain ⟨rfl, rfl⟩ := he
      obtain ⟨b, off, rfl, hy⟩ := hx (by omega)
      obtain ⟨n, hn⟩ : ∃ n, l[j]? = some n := ⟨_, List.getElem?_eq_getElem hjl⟩
      have e1 := hy j n hn
      have hft := foldAcc_take hn
      have HFT := Lib.hid hft
      have r1 : (0 : Int) ≤ (j : Int) := by omega
      have r2 : (j : Int) < (l.length : Int) := by omega
      have hlen := foldAcc_len (l.take j)
      rw [List.length_take] at hlen
      have HP := Lib.hid (foldPut_any n z (z + 1) _ (by omega) HA.out hsz (by omega))
      clear hx hy hn hft hlen
      go_wp2_with fail
      refine HP.out.mono ?_
      rintro e w2 ⟨rfl, hA2, F2⟩
      rw [← HFT.out] at hA2
      have HA2 := Lib.hid hA2
      have HF2 := Lib.hid (HF.out.trans' F2 (fun i hi e => by have := HZ.out; omega))
      have hs2 := F2.size
      clear hA2 F2
      go_wp2_with fail
      go_roundg (l.length - (j + 1))
      case measure => rw [HG.out]; omega
      case rel => exact ⟨j + 1, rfl, by omega, by go_num, HA2.out, HF2.out, by omega⟩
    · have hall : l.take j = l := List.take_of_length_le (by omega)
      obtain ⟨u, BG, _, hown, _⟩ := HA.out
      rw [hall] at hown
      have hown := own_le hown (base' := w.heap.size) (by have := HZ.out; omega)
      have HO := Lib.hid hown
      have g0 := BG.cell 0
      simp at g0
      clear hown hall
      go_wp2_with fail
      go_ret
      exact ⟨⟨_, rfl, HO.out⟩, HF.out⟩
end Go.Proofs.YthjcoolefboodaaGreatDoor

namespace Go.Q
open Go Go.RowKit
theorem may12 {k n : Int} (h : mayS k n = true) : mayS 12 n = true := by
  unfold mayS at h ⊢
  rw [if_pos rfl]
  have hs : surr n = decide (55296 ≤ n ∧ n ≤ 57343) := rfl
  split at h
  · exact h
  split at h
  · rw [Bool.and_eq_true] at h
    have h1 := of_decide_eq_true h.1
    rw [hs, decide_eq_true (by omega), decide_eq_false (by omega)]
    rfl
  split at h
  · have h1 := of_decide_eq_true h
    rw [hs, decide_eq_true (by omega), decide_eq_false (by omega)]
    rfl
  split at h
  · have h1 := of_decide_eq_true h
    rw [hs, decide_eq_true (by omega), decide_eq_false (by omega)]
    rfl
  split at h
  · have h1 := of_decide_eq_true h
    rw [hs, decide_eq_true (by omega), decide_eq_false (by omega)]
    rfl
  split at h
  · rw [Bool.and_eq_true] at h
    have h1 := of_decide_eq_true h.1
    rw [h.2, decide_eq_true (by omega)]
    rfl
  · cases h
theorem right_all {k : Int} {b : List UInt8} (h : rightS k b = true) : ∀ n ∈ signsS k b, mayS k n = true := by
  unfold rightS at h
  rw [Bool.and_eq_true] at h
  exact List.all_eq_true.1 h.2
def foldKeyS (k : Int) (b : List UInt8) : List UInt8 := ofS 12 (foldS (signsS k b))
theorem small_may {n : Int} (h : mayS 12 n = true) : mayS 12 (smallS n) = true := by
  unfold smallS
  split
  · unfold mayS surr
    rw [if_pos rfl, decide_eq_true (by omega), decide_eq_false (by omega)]
    rfl
  · exact h
theorem fold_may {l : List Int} (h : ∀ n ∈ l, mayS 12 n = true) : ∀ n ∈ foldS l, mayS 12 n = true := by
  have : ∀ (l : List Int) (s : List Int × Bool), (∀ n ∈ l, mayS 12 n = true) → (∀ n ∈ s.1, mayS 12 n = true) → ∀ n ∈ (l.foldl foldStep s).1, mayS 12 n = true := by
    intro l
    induction l with
    | nil => intro s _ h; exact h
    | cons m l ih =>
      intro s h1 h2
      refine ih (foldStep s m) (fun n hn => h1 n (List.mem_cons_of_mem _ hn)) (fun n hn => ?_)
      unfold foldStep at hn
      split at hn
      · exact h2 n hn
      · have hm := small_may (h1 m List.mem_cons_self)
        simp only [List.mem_append, List.mem_singleton] at hn
        rcases hn with hn | hn
        · split at hn
          · rcases List.mem_append.1 hn with h | h
            · exact h2 n h
            · rw [List.mem_singleton.1 h]; rfl
          · exact h2 n hn
        · rw [hn]; exact hm
  exact this l ([], false) h (by simp)
end Go.Q
namespace Go.Proofs.YthjcoolefboodaaGreatDoor
open Go Go.RowKit Go.Q
set_option maxRecDepth 20000 in
set_option maxHeartbeats 1000000 in
theorem foldKey_any (k : Int) (v : Value) (b : List UInt8) (w : World) (hv : Bytes w v b) (hT : Tabs w) (hok : rightS k b = true) (hbl : b.length ≤ 16777216) :
    Calls Tryz.prog 141 #[.agg #[.int .i64 k, v]] w fun e w' => e = .returned (.tuple #[str (foldKeyS k b), .int .i64 0]) ∧ Fr (fun _ => False) w w' := by
  obtain ⟨a, cap, rfl, -⟩ := hv.form
  obtain ⟨z, hz⟩ : ∃ z, z = w.heap.size := ⟨_, rfl⟩
  have F0 : Fr (fun _ => False) w (w.alloc (.cells #[.int .i64 k, .slice a b.length cap] 215)) := (Fr.refl w).alloc _
  have B0 := Blk.new w 215 #[.int .i64 k, .slice a b.length cap]
  rw [← hz] at B0
  have HS := Lib.hid (signsText_any k _ b _ (hv.old F0) (hT.old F0) (by omega) hok)
  have hm := Lib.hid (fold_may (fun n hn => may12 (right_all hok n hn)))
  have hl := signsS_len k b
  have HZ := Lib.hid hz
  have HF0 := Lib.hid F0
  have hu : foldKeyS k b = ofS 12 (foldS (signsS k b)) := rfl
  have HU := Lib.hid hu
  clear F0 hz hok hv hT hu
  generalize signsS k b = sg at *
  have hfl : (foldS sg).length ≤ 2 * sg.length := foldAcc_len sg
  go_enter Tryz.func141, Tryz.ntmps141
  go_upto_region 1 with fail
  rw [← HZ.out]
  generalize (w.alloc (.cells #[.int .i64 k, .slice a b.length cap] 215)) = w1 at *
  have t0 := B0.cell 0
  have t1 := B0.cell 1
  simp at t0 t1
  go_wp2_with fail
  refine HS.out.mono ?_
  rintro e w2 ⟨⟨u2, rfl, ho2⟩, F2⟩
  have hi2 := (Vals.of_own ho2).1
  obtain ⟨a2, m2, c2, rfl, rfl⟩ := own_shape ho2
  have HG := Lib.hid (foldSigns_any _ sg w2 hi2 (by omega))
  have HF2 := Lib.hid (HF0.out.trans F2)
  clear HS HF0 F2 ho2 t0 t1 B0 hi2
  go_wp2_with fail
  refine HG.out.mono ?_
  rintro e w4 ⟨⟨u4, rfl, ho4⟩, F4⟩
  have hi4 := (Vals.of_own ho4).1
  obtain ⟨a4, m4, c4, rfl, rfl⟩ := own_shape ho4
  have HO := Lib.hid (ofText_any 12 _ (foldS sg) w4 hi4 rfl hm.out (by omega))
  have HF4 := Lib.hid (HF2.out.trans F4)
  clear HG HF2 F4 ho4 hi4
  generalize foldS sg = fs at *
  go_wp2_with fail
  refine HO.out.mono ?_
  rintro e w3 ⟨⟨u3, rfl, ho3⟩, F3⟩
  have hb3 := (Vals.of_own ho3).1
  obtain ⟨a3, m3, c3, rfl, rfl⟩ := own_shape ho3
  have hs3 : ∀ o, (Go.convert 22 9 (.slice a3 (ofS 12 fs).length c3)).run Tryz.prog (w3.alloc o) = .ok (str (ofS 12 fs)) (w3.alloc o) := fun o => str_of (hb3.old ((Fr.refl w3).alloc o))
  have HF3 := Lib.hid ((HF4.out.trans F3).alloc (.cells #[.int .i64 12, .slice a3 (ofS 12 fs).length c3] 215))
  clear HO HF4 F3 ho3 hb3
  go_wp2_with fail
  refine bodyPost_ret (v := .tuple #[str (ofS 12 fs), .int .i64 0]) (by simp [results, Tryz.results141, go_sem]) rfl ⟨by rw [HU.out], HF3.out⟩
end Go.Proofs.YthjcoolefboodaaGreatDoor

namespace Go.Q
open Go Go.RowKit
def hexN (n : Int) : Int := if n < 10 then 48 + n else 87 + n
def hex1 (x : UInt8) : List UInt8 := [UInt8.ofNat (hexN ((x.toNat : Int) / 16)).toNat, UInt8.ofNat (hexN ((x.toNat % 16 : Nat) : Int)).toNat]
def hexS (l : List UInt8) : List UInt8 := l.flatMap hex1
theorem hexS_take {l : List UInt8} {j : Nat} {x : UInt8} (h : l[j]? = some x) : hexS (l.take (j + 1)) = hexS (l.take j) ++ hex1 x := by
  unfold hexS
  rw [List.take_add_one, h]
  simp
theorem hexS_len (l : List UInt8) : (hexS l).length = 2 * l.length := by
  induction l with
  | nil => rfl
  | cons x l ih =>
    have : hexS (x :: l) = hex1 x ++ hexS l := rfl
    rw [this, List.length_append, ih]
    simp only [hex1, List.length_cons, List.length_nil]
    omega
theorem hexN_lt (n : Int) (h0 : 0 ≤ n) (h1 : n < 16) : 48 ≤ hexN n ∧ hexN n < 103 := by unfold hexN; split <;> omega
end Go.Q
namespace Go.Proofs.YthjcoolefboodaaGreatDoor
open Go Go.RowKit Go.Q
theorem digit_any (n : Int) (h0 : 0 ≤ n) (h1 : n < 16) (w : World) :
    Calls Tryz.prog 48 #[.int .u8 n] w fun e w' => e = .returned (.int .u8 (hexN n)) ∧ w = w' := by
  by_cases hc : n < 10
  · have hb : hexN n = 48 + n := if_pos hc
    have HB := Lib.hid hb
    have hw : IntKind.u8.wrap (48 + n) = 48 + n := by simp [IntKind.wrap, IntKind.signed, IntKind.bits]; omega
    clear hb
    go_enter Tryz.func48, Tryz.ntmps48
    go_wp2_with fail
    go_ret
    refine ⟨?_, rfl⟩
    rw [HB.out]
    first | rfl | rw [hw]
  · have hb : hexN n = 87 + n := if_neg hc
    have HB := Lib.hid hb
    have hw : IntKind.u8.wrap (97 + n) = 97 + n := by simp [IntKind.wrap, IntKind.signed, IntKind.bits]; omega
    have hw2 : IntKind.u8.wrap (97 + n - 10) = 87 + n := by simp [IntKind.wrap, IntKind.signed, IntKind.bits]; omega
    clear hb
    go_enter Tryz.func48, Tryz.ntmps48
    go_wp2_with fail
    go_ret
    refine ⟨?_, rfl⟩
    rw [HB.out]
    first | rfl | (rw [hw, hw2])
set_option maxRecDepth 20000 in
set_option maxHeartbeats 1000000 in
theorem hex_any (v : Value) (l : List UInt8) (w : World) (h : Bytes w v l) (hl : l.length ≤ 109951162) :
    Calls Tryz.prog 16 #[v] w fun e w' => e = .returned (str (hexS l)) ∧ Fr (fun _ => False) w w' := by
  have H := Lib.hid h
  obtain ⟨a, cap, rfl, -⟩ := h.form
  obtain ⟨i0, hi0, hz0, hz1, hz2⟩ := info_parts info5
  have hmk := run_make (P := Tryz.prog) w 22 5 i0 _ Tryz.underlying22 hi0 hz0 .i64 .i64 0 (2 * (l.length : Int)) (by omega) (by omega) (by rw [hz2]; omega) (by omega)
  have hm2 : (2 * (l.length : Int)).toNat = 2 * l.length := by omega
  rw [hm2, hz1, Nat.mul_one] at hmk
  have hms : (madeCells (Value.int .u8 0).cells (2 * l.length)).size = 2 * l.length := by simp [madeCells]
  have B0 := Blk.new w 5 (madeCells (Value.int .u8 0).cells (2 * l.length))
  have own0 := own_block B0 0 (Nat.zero_le _) (by rw [hms]; unfold maxLen; omega) w.heap.size (Nat.le_refl _)
  rw [hms, List.take_zero] at own0
  have F0 : Fr (fun _ => False) w (w.alloc (.cells (madeCells (Value.int .u8 0).cells (2 * l.length)) 5)) := (Fr.refl w).alloc _
  have HO := Lib.hid own0
  have HF := Lib.hid F0
  generalize hwg : (w.alloc (.cells (madeCells (Value.int .u8 0).cells (2 * l.length)) 5)) = w1 at *
  have HM := Lib.hid hmk
  clear h hi0 hz0 hz1 hz2 hm2 hms B0 own0 F0 hwg hmk
  have hmk := HM.out
  go_enter Tryz.func16, Tryz.ntmps16
  go_wp2_with fail
  go_loopg [3, 12] l.length (fun g u i wr => ∃ (j : Nat) (au : Option Addr) (cu : Nat), g = l.length - j ∧ j ≤ l.length ∧ u = .slice au (2 * j) cu ∧ i = .int .i64 j ∧ wr.ownsRow w.heap.size 5 1 (.slice au (2 * j) cu) (2 * j) (Lib.byteCells (hexS (l.take j))) ∧ Fr (fun _ => False) w wr)
  case atStart => exact ⟨0, _, _, rfl, Nat.zero_le _, rfl, rfl, HO.out, HF.out⟩
  case round =>
    obtain ⟨j, au, cu, hg, hj, rfl, rfl, hown, F⟩ := hrel
    have HG := Lib.hid hg
    clear hg
    by_cases hjl : j < l.length
    · obtain ⟨a0, cap0, he, _, _, hx⟩ := (H.out.old F).form
      simp only [Value.slice.injEq, true_and] at he
      obtain ⟨rfl, rfl⟩ := he
      obtain ⟨b, off, rfl, hy⟩ := hx (by omega)
      obtain ⟨x, hn⟩ : ∃ n, l[j]? = some n := ⟨_, List.getElem?_eq_getElem hjl⟩
      have e1 := hy j x hn
      have HFT := Lib.hid (hexS_take hn)
      have hxl := x.toNat_lt
      have h15 := and15 x
      have hx1 : hex1 x = [UInt8.ofNat (hexN ((x.toNat : Int) / 16)).toNat, UInt8.ofNat (hexN ((x.toNat % 16 : Nat) : Int)).toNat] := rfl
      obtain ⟨y, hye⟩ : ∃ y : Nat, y = x.toNat := ⟨_, rfl⟩
      rw [← hye] at e1 hxl h15 hx1
      obtain ⟨r, hr⟩ : ∃ r : Nat, r = y % 16 := ⟨_, rfl⟩
      rw [← hr] at h15 hx1
      have hyl : y < 256 := hxl
      have hrl : r < 16 := by omega
      have b1 := hexN_lt ((y : Int) / 16) (by omega) (by omega)
      have b2 := hexN_lt (r : Int) (by omega) (by omega)
      have F1 : Fr (fun _ => False) wr (wr.alloc (.cells #[.int .u8 (hexN ((y : Int) / 16)), .int .u8 (hexN (r : Int))] 5)) := (Fr.refl wr).alloc _
      have hsrc : Bytes (wr.alloc (.cells #[.int .u8 (hexN ((y : Int) / 16)), .int .u8 (hexN (r : Int))] 5)) (.slice (some ⟨wr.heap.size, 0, none⟩) 2 2) (hex1 x) := by
        have h := Vals.of_block (Blk.new wr 5 #[.int .u8 (hexN ((y : Int) / 16)), .int .u8 (hexN (r : Int))]) (by unfold maxLen; simp)
        have e : Lib.byteCells (hex1 x) = [.int .u8 (hexN ((y : Int) / 16)), .int .u8 (hexN (r : Int))] := by
          rw [hx1]
          simp only [Lib.byteCells, List.map_cons, List.map_nil, u8 (hexN ((y : Int) / 16)).toNat (by omega), u8 (hexN (r : Int)).toNat (by omega)]
          rw [Int.toNat_of_nonneg (by omega), Int.toNat_of_nonneg (by omega)]
        show Vals _ _ (Lib.byteCells (hex1 x))
        rw [e]
        exact h
      obtain ⟨v', w2, hrun, h1, F2, _⟩ := append_bytes (ownsRow_fr hown F1 (fun _ _ h => h)) (some ⟨wr.heap.size, 0, none⟩) 2 2 (hex1 x) hsrc (by omega) (Nat.le_trans F.size F1.size)
      obtain ⟨a', m', c', rfl, rfl⟩ := own_shape h1
      have hbk := (Vals.of_own hown).2
      have HF2 := Lib.hid ((F.trans F1).trans' F2 (fun i hi e => by have := (hbk i e).1; omega))
      have HRUN := Lib.hid hrun
      have HOWN := Lib.hid h1
      have r1 : (0 : Int) ≤ (j : Int) := by omega
      have r2 : (j : Int) < (l.length : Int) := by omega
      clear hx hy hn hown F F1 F2 hsrc hrun h1 hbk hx1 hye hr hxl
      go_wp2_with (first | (go_at_call 48; refine (digit_any _ (by omega) (by omega) _).mono ?_; rintro e w' ⟨rfl, rfl⟩) | (at_builtin; refine wpList_append_run (by rfl) (.tmp 16) (.tmp 23) 22 (by rfl) _ w2 (by exact HRUN.out) ?_))
      go_roundg (l.length - (j + 1))
      case measure => rw [HG.out]; omega
      case rel => exact ⟨j + 1, a', c', rfl, by omega, rfl, by go_num, by rw [HFT.out]; exact HOWN.out, HF2.out⟩
    · have hall : l.take j = l := List.take_of_length_le (by omega)
      rw [hall] at hown
      have hs := Lib.hid (str_of (Vals.of_own hown).1)
      clear hown hall
      have hs1 := hs.out
      go_wp2_with fail
      go_ret
      exact ⟨rfl, F⟩
end Go.Proofs.YthjcoolefboodaaGreatDoor

namespace Go.Q
open Go Go.RowKit
def attrKeyS (o : List Int) (b : List UInt8) : List UInt8 :=
  oidTextS o ++ (match textReadS b with
    | .ok (k, t, _) => [61, 116] ++ hexS (foldKeyS k t)
    | .error _ => [61, 98] ++ hexS b)
theorem foldKey_len (k : Int) (b : List UInt8) : (foldKeyS k b).length ≤ 8 * b.length := by
  have h1 := ofS_le 12 (foldS (signsS k b))
  have h2 : (foldS (signsS k b)).length ≤ 2 * (signsS k b).length := foldAcc_len _
  have h3 := signsS_len k b
  unfold foldKeyS
  omega
theorem textRead_ok {l b : List UInt8} {k : Int} {n : Nat} (h : textReadS l = .ok (k, b, n)) : rightS k b = true ∧ b.length ≤ l.length := by
  unfold textReadS at h
  split at h
  · cases h
  · split at h
    · cases h
    · split at h
      · cases h
      · split at h
        · rename_i hr
          simp only [Except.ok.injEq, Prod.mk.injEq] at h
          obtain ⟨rfl, rfl, -⟩ := h
          refine ⟨hr, ?_⟩
          rw [List.length_take, List.length_drop]
          omega
        · cases h
end Go.Q
namespace Go.Proofs.YthjcoolefboodaaGreatDoor
open Go Go.RowKit Go.Q
def WordsOut (w' : World) (l : List UInt8) (e : Ending) : Prop :=
  match textReadS l with
  | .error _ => e = .returned (.tuple #[.agg #[.int .i64 0, .slice none 0 0], .bool false])
  | .ok (k, b, _) => ∃ u, e = .returned (.tuple #[.agg #[.int .i64 k, u], .bool true]) ∧ Bytes w' u b
set_option maxRecDepth 20000 in
set_option maxHeartbeats 1000000 in
theorem words_any (v : Value) (l : List UInt8) (w : World) (h : Bytes w v l) (hE : Env w) (hl : l.length ≤ 1099511627776) :
    Calls Tryz.prog 140 #[v] w fun e w' => WordsOut w' l e ∧ Fr (fun _ => False) w w' := by
  obtain ⟨z, hz⟩ : ∃ z, z = w.heap.size := ⟨_, rfl⟩
  have F0 : Fr (fun _ => False) w (w.alloc (.cells #[.int .i64 0, .slice none 0 0] 215)) := (Fr.refl w).alloc _
  have BZ := Blk.new w 215 #[.int .i64 0, .slice none 0 0]
  rw [← hz] at BZ
  have HN := Lib.hid (new_any _ v l (h.old F0) hl)
  have HE := Lib.hid (hE.old F0)
  have HZ := Lib.hid hz
  have HF0 := Lib.hid F0
  have hgl := hE.size
  clear h hE hz F0
  go_enter Tryz.func140, Tryz.ntmps140
  go_upto_region 1 with fail
  rw [← HZ.out]
  generalize (w.alloc (.cells #[.int .i64 0, .slice none 0 0] 215)) = w1 at *
  go_wp2_with fail
  refine HN.out.mono ?_
  rintro e w2 ⟨rfl, C2, F2⟩
  have BZ2 := BZ.fr F2 (fun h => h)
  have HE2 := HE.out.old F2
  have hs1 := HF0.out.size
  have hzl := BZ.lt
  obtain ⟨c, hc⟩ : ∃ c, c = w1.heap.size := ⟨_, rfl⟩
  rw [← hc] at C2 ⊢
  have hk1 : ¬ (2 = c ∨ 3 = c) := by
    have : gLim = gLim := rfl
    have h1 : 2 < gLim := by decide
    have h2 : 3 < gLim := by decide
    omega
  have HR := Lib.hid (textRead_any C2 HE2.tabs hk1)
  have HF2 := Lib.hid (HF0.out.trans F2)
  have hcz : z < c := by omega
  have hcw : w.heap.size ≤ c := by omega
  clear HN HF0 F2 BZ hc HE2 C2 hk1 HE
  go_wp2_with fail
  refine HR.out.mono ?_
  rintro e w3 ⟨hout, F3⟩
  have BZ3 := BZ2.fr F3 (by omega)
  have hlt3 := BZ3.lt
  have HF3 := Lib.hid (HF2.out.trans' F3 (fun i hi e => by omega))
  unfold TextOut at hout
  rw [List.drop_zero] at hout
  cases hr : textReadS l with
  | error x =>
    rw [hr] at hout
    obtain ⟨rfl, hx, C3⟩ := hout
    have hx1 : (x == 0) = false := beq_eq_false_iff_ne.2 hx
    have HRR := Lib.hid hr
    go_upto_region 2 with fail
    have BZ4 := BZ3.alloc (.cells #[.int .i64 0, .slice none 0 0] 215)
    have BY4 := Blk.new w3 215 #[.int .i64 0, .slice none 0 0]
    have F4 : Fr (fun _ => False) w3 (w3.alloc (.cells #[.int .i64 0, .slice none 0 0] 215)) := (Fr.refl w3).alloc _
    obtain ⟨y, hy⟩ : ∃ y, y = w3.heap.size := ⟨_, rfl⟩
    rw [← hy] at BY4 ⊢
    clear hy
    generalize (w3.alloc (.cells #[.int .i64 0, .slice none 0 0] 215)) = w4 at *
    have y0 := BY4.cell 0
    have y1 := BY4.cell 1
    simp only [List.getElem?_toArray, List.getElem?_cons_succ, List.getElem?_cons_zero] at y0 y1
    have z0 := BZ4.cell 0
    have z1 := BZ4.cell 1
    have f0 := BZ4.frozen 0
    have f1 := BZ4.frozen 1
    simp only [List.getElem?_toArray, List.getElem?_cons_succ, List.getElem?_cons_zero] at z0 z1
    obtain ⟨BZ5, F5⟩ := set2 BZ4 (.int .i64 0) (.slice none 0 0)
    have n0 := BZ5.cell 0
    have n1 := BZ5.cell 1
    simp only [List.getElem?_toArray, List.getElem?_cons_succ, List.getElem?_cons_zero] at n0 n1
    have HF5 := Lib.hid ((HF3.out.trans F4).trans' F5 (fun i hi e => by have := HZ.out; omega))
    clear hr C3 F3 F4 BZ2 BZ3 BZ4 BZ5 F5 BY4 HF2 HF3 HR hx
    go_wp2_with fail
    refine bodyPost_ret (v := .tuple #[.agg #[.int .i64 0, .slice none 0 0], .bool false]) (by simp [results, Tryz.results140, go_sem, n0, n1]) rfl ⟨?_, HF5.out⟩
    unfold WordsOut
    rw [HRR.out]
  | ok kbn =>
    obtain ⟨k, b, n⟩ := kbn
    rw [hr] at hout
    obtain ⟨⟨u, rfl, ho⟩, C3⟩ := hout
    have HRR := Lib.hid hr
    obtain ⟨au, mu, cu, rfl, rfl⟩ := own_shape ho
    go_upto_region 2 with fail
    have BZ4 := BZ3.alloc (.cells #[.int .i64 k, .slice au b.length cu] 215)
    have BY4 := Blk.new w3 215 #[.int .i64 k, .slice au b.length cu]
    have F4 : Fr (fun _ => False) w3 (w3.alloc (.cells #[.int .i64 k, .slice au b.length cu] 215)) := (Fr.refl w3).alloc _
    obtain ⟨y, hy⟩ : ∃ y, y = w3.heap.size := ⟨_, rfl⟩
    rw [← hy] at BY4 ⊢
    clear hy
    generalize (w3.alloc (.cells #[.int .i64 k, .slice au b.length cu] 215)) = w4 at *
    have y0 := BY4.cell 0
    have y1 := BY4.cell 1
    simp only [List.getElem?_toArray, List.getElem?_cons_succ, List.getElem?_cons_zero] at y0 y1
    have z0 := BZ4.cell 0
    have z1 := BZ4.cell 1
    have f0 := BZ4.frozen 0
    have f1 := BZ4.frozen 1
    simp only [List.getElem?_toArray, List.getElem?_cons_succ, List.getElem?_cons_zero] at z0 z1
    obtain ⟨BZ5, F5⟩ := set2 BZ4 (.int .i64 k) (.slice au b.length cu)
    have n0 := BZ5.cell 0
    have n1 := BZ5.cell 1
    simp only [List.getElem?_toArray, List.getElem?_cons_succ, List.getElem?_cons_zero] at n0 n1
    have HF5 := Lib.hid ((HF3.out.trans F4).trans' F5 (fun i hi e => by have := HZ.out; omega))
    have hzs := BZ2.lt
    have ho2 := ownsRow_fr (ownsRow_fr ho F4 (fun _ _ h => h)) F5 (fun q hq e => by have := ((Vals.of_own ho).2 q hq).1; omega)
    have HB := Lib.hid (Vals.of_own ho2).1
    clear hr C3 F3 F4 BZ2 BZ3 BZ4 BZ5 F5 BY4 HF2 HF3 HR ho ho2
    go_wp2_with fail
    refine bodyPost_ret (v := .tuple #[.agg #[.int .i64 k, .slice au b.length cu], .bool true]) (by simp [results, Tryz.results140, go_sem, n0, n1]) rfl ⟨?_, HF5.out⟩
    unfold WordsOut
    rw [HRR.out]
    exact ⟨_, rfl, HB.out⟩
set_option maxRecDepth 20000 in
set_option maxHeartbeats 1000000 in
theorem attrKey_any (x y : Value) (o : List Int) (b : List UInt8) (w : World) (hx : Ints w x o) (hy : Bytes w y b) (ho : oidOk o = true) (hl : b.length ≤ 10000000) (hE : Env w) :
    Calls Tryz.prog 104 #[.agg #[x, y]] w fun e w' => e = .returned (str (attrKeyS o b)) ∧ Fr (fun _ => False) w w' := by
  obtain ⟨ax, cx, rfl, -⟩ := Ints.form hx
  obtain ⟨ay, cy, rfl, -⟩ := Vals.form hy
  obtain ⟨z, hz⟩ : ∃ z, z = w.heap.size := ⟨_, rfl⟩
  have BZ := Blk.new w 107 #[.slice ax o.length cx, .slice ay b.length cy]
  have F0 : Fr (fun _ => False) w (w.alloc (.cells #[.slice ax o.length cx, .slice ay b.length cy] 107)) := (Fr.refl w).alloc _
  have HT := Lib.hid (oidText_any _ o _ (hx.old F0) ho (hE.old F0))
  have HY := Lib.hid (hy.old F0)
  have HE := Lib.hid (hE.old F0)
  rw [← hz] at BZ
  have HF0 := Lib.hid F0
  have HZ := Lib.hid hz
  have hk : attrKeyS o b = oidTextS o ++ (match textReadS b with | .ok (k, t, _) => [61, 116] ++ hexS (foldKeyS k t) | .error _ => [61, 98] ++ hexS b) := rfl
  have HK := Lib.hid hk
  have ho0 := Lib.hid ho
  clear hx hy F0 hz ho hE hk
  have hol : o.length ≤ 32 := (nums_ok ho0.out).2.1
  have hot : (oidTextS o).length ≤ 1000 := by
    have hall := ho0.out
    simp only [oidOk, Bool.and_eq_true, decide_eq_true_eq] at hall
    have := oidText_len (o := o) (fun n hn => by
      have := List.all_eq_true.1 hall.1.2 n hn
      simp only [arcOk, decide_eq_true_eq] at this
      omega)
    omega
  have hos : (ByteArray.mk (oidTextS o).toArray).size = (oidTextS o).length := by simp [ByteArray.size]
  generalize oidTextS o = ot at *
  go_enter Tryz.func104, Tryz.ntmps104
  go_upto_region 1 with fail
  rw [← HZ.out]
  generalize (w.alloc (.cells #[.slice ax o.length cx, .slice ay b.length cy] 107)) = w0 at *
  have z0 := BZ.cell 0
  simp at z0
  go_wp2_with fail
  refine HT.out.mono ?_
  rintro e w1 ⟨rfl, F1⟩
  have BZ1 := BZ.fr F1 (fun h => h)
  have z1 := BZ1.cell 1
  simp at z1
  have HY1 := Lib.hid (HY.out.old F1)
  have HE1 := Lib.hid (HE.out.old F1)
  have HF1 := Lib.hid (HF0.out.trans F1)
  clear HT HY HE HF0 F1 z0 BZ
  go_wp2_with fail
  refine (words_any _ b w1 HY1.out HE1.out (by omega)).mono ?_
  rintro e w2 ⟨hout, F2⟩
  have BZ2 := BZ1.fr F2 (fun h => h)
  have HY2 := Lib.hid (HY1.out.old F2)
  have HE2 := Lib.hid (HE1.out.old F2)
  have HF2 := Lib.hid (HF1.out.trans F2)
  unfold WordsOut at hout
  clear HY1 HE1 HF1 F2 z1 BZ1
  cases hr : textReadS b with
  | error x =>
    rw [hr] at hout
    subst hout
    have F3 : Fr (fun _ => False) w2 (w2.alloc (.cells #[.int .i64 0, .slice none 0 0] 215)) := (Fr.refl w2).alloc _
    have BZ3 := BZ2.fr F3 (fun h => h)
    have z1 := BZ3.cell 1
    simp only [List.getElem?_toArray, List.getElem?_cons_succ, List.getElem?_cons_zero] at z1
    have HX := Lib.hid (hex_any _ b _ (HY2.out.old F3) (by omega))
    have HF3 := Lib.hid (HF2.out.trans F3)
    have hkk := HK.out
    rw [hr] at hkk
    have HKK := Lib.hid hkk
    have hhl := hexS_len b
    have hhs : (ByteArray.mk (hexS b).toArray).size = (hexS b).length := by simp [ByteArray.size]
    clear hr hkk HY2 HF2 F3 BZ2 BZ3
    generalize hexS b = hb at *
    go_wp2_with fail
    refine HX.out.mono ?_
    rintro e w4 ⟨rfl, F4⟩
    go_wp2_with fail
    go_ret
    refine ⟨congrArg (fun x : ByteArray => Ending.returned (.string x)) ?_, HF3.out.trans F4⟩
    rw [HKK.out, ← List.append_assoc, ← ba_cat, ← ba_cat]
  | ok kbn =>
    obtain ⟨k, t, n⟩ := kbn
    rw [hr] at hout
    obtain ⟨u, rfl, hu⟩ := hout
    obtain ⟨hrt, htl⟩ := textRead_ok hr
    obtain ⟨au, cu, rfl, -⟩ := hu.form
    have F3 : Fr (fun _ => False) w2 (w2.alloc (.cells #[.int .i64 k, .slice au t.length cu] 215)) := (Fr.refl w2).alloc _
    have HX := Lib.hid (foldKey_any k _ t _ (hu.old F3) (HE2.out.old F3).tabs hrt (by omega))
    have HF3 := Lib.hid (HF2.out.trans F3)
    have hkk := HK.out
    rw [hr] at hkk
    simp only at hkk
    have HKK := Lib.hid hkk
    have hfl := foldKey_len k t
    clear hr hkk HY2 HF2 F3 BZ2 hu hrt
    generalize foldKeyS k t = fk at *
    go_upto_region 4 with fail
    have BY := Blk.new w2 215 #[.int .i64 k, .slice au t.length cu]
    obtain ⟨y, hy⟩ : ∃ y, y = w2.heap.size := ⟨_, rfl⟩
    rw [← hy] at BY ⊢
    clear hy
    generalize (w2.alloc (.cells #[.int .i64 k, .slice au t.length cu] 215)) = w3 at *
    have y0 := BY.cell 0
    have y1 := BY.cell 1
    simp only [List.getElem?_toArray, List.getElem?_cons_succ, List.getElem?_cons_zero] at y0 y1
    go_wp2_with fail
    refine HX.out.mono ?_
    rintro e w4 ⟨rfl, F4⟩
    obtain ⟨cp, wc, hcv, hbv, FC, -⟩ := bytes_of_str w4 fk (by omega)
    have HXX := Lib.hid (hex_any _ fk wc hbv (by omega))
    have HF4 := Lib.hid ((HF3.out.trans F4).trans FC)
    have hhl := hexS_len fk
    have hhs : (ByteArray.mk (hexS fk).toArray).size = (hexS fk).length := by simp [ByteArray.size]
    clear HX HF3 F4 hbv FC BY y0 y1
    generalize hexS fk = hb at *
    go_wp2_with fail
    refine HXX.out.mono ?_
    rintro e w5 ⟨rfl, F5⟩
    go_wp2_with fail
    go_ret
    refine ⟨congrArg (fun x : ByteArray => Ending.returned (.string x)) ?_, HF4.out.trans F5⟩
    rw [HKK.out, ← List.append_assoc, ← ba_cat, ← ba_cat]
end Go.Proofs.YthjcoolefboodaaGreatDoor

namespace Go.Q
open Go Go.RowKit
def Kept (R : World → Prop) (K : Nat → Prop) (w : World) : Prop := ∀ w', Fr K w w' → R w'
theorem Kept.now {R : World → Prop} {K : Nat → Prop} {w : World} (h : Kept R K w) : R w := h w (Fr.refl w)
theorem Kept.step {R : World → Prop} {K K' S : Nat → Prop} {w w' : World} (h : Kept R K w) (f : Fr S w w') (hS : ∀ k, k < w.heap.size → S k → K k) (hK : ∀ k, K' k → K k ∨ w.heap.size ≤ k) : Kept R K' w' := fun w2 f2 =>
  h w2 ((f.mono hS).trans' f2 (fun i hi e => (hK i e).elim id (fun h => by omega)))
theorem Kept.old {R : World → Prop} {K : Nat → Prop} {w w' : World} (h : Kept R K w) (f : Fr (fun _ => False) w w') : Kept R K w' := h.step f (fun _ _ h => h.elim) (fun _ h => .inl h)
theorem Attrs.of_block {w : World} {g : Nat} {x y : Value} {p : Part} (B : Blk w g 107 #[x, y]) (hx : Vals w x (intCells p.o)) (hy : Bytes w y p.b) : Attrs w (.slice (some ⟨g, 0, none⟩) 1 1) [p] :=
  ⟨_, 1, rfl, Nat.le_refl _, by unfold maxLen; omega, fun _ => ⟨g, 0, rfl, fun i q hq => by
    match i, hq with
    | 0, hq =>
      simp only [List.getElem?_cons_zero, Option.some.injEq] at hq
      subst hq
      exact ⟨x, y, B.cell 0, B.cell 1, hx, hy⟩
    | i + 1, hq => simp at hq⟩⟩
end Go.Q
namespace Go.Proofs.YthjcoolefboodaaGreatDoor
open Go Go.RowKit Go.Q
end Go.Proofs.YthjcoolefboodaaGreatDoor

namespace Go.Q
open Go Go.RowKit
theorem Attrs.form {w : World} {v : Value} {l : List Part} (h : Attrs w v l) : ∃ a cap, v = .slice a l.length cap := by
  obtain ⟨a, cap, rfl, -⟩ := h
  exact ⟨a, cap, rfl⟩
end Go.Q
namespace Go.Proofs.YthjcoolefboodaaGreatDoor
open Go Go.RowKit Go.Q
theorem info75 : (Tryz.prog.info? 75).map (fun i => (i.zero, i.size, i.bytes)) = some (some (.slice none 0 0), 1, 24) := by kernel_rfl
end Go.Proofs.YthjcoolefboodaaGreatDoor

namespace Go.Q
open Go Go.RowKit
def cmpI : List Int → List Int → Int
  | [], [] => 0
  | [], _ :: _ => -1
  | _ :: _, [] => 1
  | x :: s, y :: t => if x < y then -1 else if y < x then 1 else cmpI s t
theorem cmpI_zero : ∀ (s t : List Int), cmpI s t = 0 ↔ s = t
  | [], [] => by simp [cmpI]
  | [], _ :: _ => by simp [cmpI]
  | _ :: _, [] => by simp [cmpI]
  | x :: s, y :: t => by
    have ih := cmpI_zero s t
    unfold cmpI
    split
    · simp; intro h; omega
    · split
      · simp; intro h; omega
      · rw [ih]
        simp
        intro _
        omega
end Go.Q
namespace Go.Proofs.YthjcoolefboodaaGreatDoor
open Go Go.RowKit Go.Q
theorem info107 : (Tryz.prog.info? 107).map (fun i => (i.zero, i.size, i.bytes)) = some (some (.agg #[.slice none 0 0, .slice none 0 0]), 2, 48) := by kernel_rfl
end Go.Proofs.YthjcoolefboodaaGreatDoor

namespace Go.Q
open Go Go.RowKit
def partKeys (r : List Part) : List (List UInt8) := r.map fun p => attrKeyS p.o p.b
def rdnKeyS (r : List Part) : List UInt8 := Lib.join (Lib.compact (sortS (partKeys r))) [43]
theorem join_len (c : UInt8) (M : Nat) : ∀ ks : List (List UInt8), (∀ k ∈ ks, k.length ≤ M) → (Lib.join ks [c]).length ≤ ks.length * (M + 1)
  | [], _ => by simp [Lib.join]
  | [k], h => by
    have := h k (by simp)
    simp [Lib.join]
    omega
  | k :: l :: t, h => by
    have h1 := h k (by simp)
    have ih := join_len c M (l :: t) (fun x hx => h x (by simp [List.mem_cons.1 hx]))
    have e : Lib.join (k :: l :: t) [c] = k ++ ([c] ++ Lib.join (l :: t) [c]) := by simp [Lib.join, List.intercalate]
    rw [e]
    simp only [List.length_append, List.length_cons, List.length_nil] at ih ⊢
    rw [Nat.add_mul (t.length + 1) 1 (M + 1)]
    omega
theorem compact_mem {zs : List (List UInt8)} {x : List UInt8} (h : x ∈ Lib.compact zs) : x ∈ zs := by
  unfold Lib.compact Lib.compactUpTo at h
  obtain ⟨i, hi, rfl⟩ := List.mem_map.1 h
  have hi2 := List.mem_range.1 (List.mem_filter.1 hi).1
  simp [hi2]
theorem sort_mem {zs : List (List UInt8)} {x : List UInt8} (h : x ∈ sortS zs) : x ∈ zs := by
  unfold sortS at h
  simpa using h
theorem attrKey_len {o : List Int} {b : List UInt8} (ho : oidOk o = true) (hb : b.length ≤ 10000000) : (attrKeyS o b).length ≤ 160001100 := by
  have hol := (Go.Proofs.YthjcoolefboodaaGreatDoor.nums_ok ho).2.1
  have h1 := oidText_len (o := o) (fun n hn => by
    simp only [oidOk, Bool.and_eq_true, decide_eq_true_eq] at ho
    have := List.all_eq_true.1 ho.1.2 n hn
    simp only [arcOk, decide_eq_true_eq] at this
    omega)
  unfold attrKeyS
  rw [List.length_append]
  cases hr : textReadS b with
  | error e =>
    simp only [List.length_append, List.length_cons, List.length_nil, hexS_len]
    omega
  | ok kbn =>
    obtain ⟨k, t, n⟩ := kbn
    have h2 := (textRead_ok hr).2
    have h3 := foldKey_len k t
    simp only [List.length_append, List.length_cons, List.length_nil, hexS_len]
    omega
end Go.Q
namespace Go.Proofs.YthjcoolefboodaaGreatDoor
open Go Go.RowKit Go.Q
set_option maxRecDepth 20000 in
set_option maxHeartbeats 2000000 in
theorem rdnKey_any (v : Value) (l : List Part) (w : World) (h : Attrs w v l) (hf : fewB l) (ho : ∀ p ∈ l, oidOk p.o = true) (hln : l.length ≤ 100) (hE : Env w) :
    Calls Tryz.prog 74 #[v] w fun e w' => e = .returned (str (rdnKeyS l)) ∧ Fr (fun _ => False) w w' := by
  have H := Lib.hid h
  have HE := Lib.hid hE
  have HO := Lib.hid ho
  obtain ⟨a, cap, rfl, hc, hm, -⟩ := h
  have hkl : ∀ k ∈ Lib.compact (sortS (partKeys l)), k.length ≤ 160001100 := fun k hk => by
    have h1 := sort_mem (compact_mem hk)
    obtain ⟨p, hp, rfl⟩ := List.mem_map.1 h1
    exact attrKey_len (ho p hp) (hf p hp)
  have HKL := Lib.hid hkl
  clear hE ho hkl
  go_enter Tryz.func74, Tryz.ntmps74
  go_wp2_with fail
  go_loopg [3, 8] l.length (fun g u i wr => ∃ (j : Nat) (au : Option Addr) (cu : Nat), g = l.length - j ∧ j ≤ l.length ∧ u = .slice au j cu ∧ i = .int .i64 j ∧ wr.ownsRow w.heap.size 9 1 (.slice au j cu) j ((partKeys (l.take j)).map str) ∧ Fr (fun _ => False) w wr)
  case atStart => exact ⟨0, none, 0, rfl, Nat.zero_le _, rfl, rfl, ⟨rfl, .inl ⟨rfl, rfl⟩⟩, Fr.refl _⟩
  case round =>
    obtain ⟨j, au, cu, hg, hj, rfl, rfl, hown, F⟩ := hrel
    have HG := Lib.hid hg
    have HOW := Lib.hid hown
    have HF := Lib.hid F
    clear hg hown
    by_cases hjl : j < l.length
    · obtain ⟨a0, cap0, he, _, _, hx⟩ := H.out.old F
      simp only [Value.slice.injEq, true_and] at he
      obtain ⟨rfl, rfl⟩ := he
      obtain ⟨b, off, rfl, hy⟩ := hx (by omega)
      obtain ⟨p, hp⟩ : ∃ p, l[j]? = some p := ⟨_, List.getElem?_eq_getElem hjl⟩
      obtain ⟨x, y, e1, e2, hpx, hpy⟩ := hy j p hp
      have hpb := hf p (List.mem_of_getElem? hp)
      have hpo := HO.out p (List.mem_of_getElem? hp)
      have r1 : (0 : Int) ≤ (j : Int) := by omega
      have r2 : (j : Int) < (l.length : Int) := by omega
      obtain ⟨ax, cx, rfl, -⟩ := Ints.form hpx
      obtain ⟨ay, cy, rfl, -⟩ := Vals.form hpy
      have e1' : wr.cell? ⟨b, off + j * 2, none⟩ = some (.slice ax p.o.length cx) := by rw [Nat.mul_comm]; exact e1
      have e2' : wr.cell? ⟨b, off + j * 2 + 1, none⟩ = some (.slice ay p.b.length cy) := by rw [Nat.mul_comm]; exact e2
      have HP := Lib.hid hp
      have HPX := Lib.hid hpx
      have HPY := Lib.hid hpy
      clear hx hy hp F hpx hpy
      go_upto_region 5 with fail
      have BZ := Blk.new wr 107 #[.slice ax p.o.length cx, .slice ay p.b.length cy]
      have F1 : Fr (fun _ => False) wr (wr.alloc (.cells #[.slice ax p.o.length cx, .slice ay p.b.length cy] 107)) := (Fr.refl wr).alloc _
      have HK := Lib.hid (attrKey_any _ _ p.o p.b _ (HPX.out.old F1) (HPY.out.old F1) hpo hpb ((HE.out.old HF.out).old F1))
      have HOW1 := Lib.hid (ownsRow_fr HOW.out F1 (fun _ _ h => h))
      have HF1 := Lib.hid (HF.out.trans F1)
      clear e1 e2 e1' e2' HPX HPY HF F1 HOW
      generalize (wr.alloc (.cells #[.slice ax p.o.length cx, .slice ay p.b.length cy] 107)) = w1 at *
      have z0 := BZ.cell 0
      have z1 := BZ.cell 1
      simp at z0 z1
      have hpk : partKeys (l.take (j + 1)) = partKeys (l.take j) ++ [attrKeyS p.o p.b] := by
        unfold partKeys
        rw [List.take_add_one, HP.out]
        simp
      have HPK := Lib.hid hpk
      clear hpk
      generalize attrKeyS p.o p.b = ky at *
      go_wp2_with fail
      refine HK.out.mono ?_
      rintro e w2 ⟨rfl, F2⟩
      have F3 : Fr (fun _ => False) w2 (w2.alloc (.cells #[str ky] 9)) := (Fr.refl w2).alloc _
      have hs1 := HF1.out.size
      have hs2 := F2.size
      have hbk := (Vals.of_own HOW1.out).2
      obtain ⟨a', c', w4, hrun, hown4, F4, hk4⟩ := add_gen Tryz.underlying138 info9 rfl (by decide) (by decide) (ownsRow_fr HOW1.out F2 (fun _ _ h => h)) (by omega) F3 w2.heap.size [str ky] rfl (Blk.new w2 9 #[str ky]) (by simp [Value.oneCell']) (by omega)
      have HRUN := Lib.hid hrun
      have HOW4 := Lib.hid hown4
      have HF4 := Lib.hid ((HF1.out.trans F2).trans' F4 (fun i hi e => by have := (hbk i e).1; omega))
      clear F2 F3 hrun hown4 F4 hk4 hbk BZ z0 z1 HOW1 HF1
      go_wp2_with (at_builtin; refine wpList_append_run (by rfl) (.tmp 12) (.tmp 15) 138 (by rfl) _ w4 (by exact HRUN.out) ?_)
      go_roundg (l.length - (j + 1))
      case measure => rw [HG.out]; omega
      case rel => exact ⟨j + 1, a', c', rfl, by omega, rfl, by go_num, by rw [HPK.out, List.map_append]; exact HOW4.out, HF4.out⟩
    · obtain rfl : j = l.length := by omega
      have hown := HOW.out
      rw [List.take_length] at hown
      have hpl : (partKeys l).length = l.length := by simp [partKeys]
      have hres : rdnKeyS l = Lib.join (Lib.compact (sortS (partKeys l))) [43] := rfl
      have HRES := Lib.hid hres
      have HS := Lib.hid (strSort_any (partKeys l) (by rw [hpl]; exact hown) (by omega))
      have hsl : (sortS (partKeys l)).length = l.length := by simp [sortS, hpl]
      have hbk := (Vals.of_own hown).2
      have HSL := Lib.hid hsl
      clear hpl hres hown HOW hsl
      generalize partKeys l = pk at *
      go_wp2_with fail
      refine HS.out.mono ?_
      rintro e w2 ⟨rfl, hown2, F2⟩
      have HF2 := Lib.hid (F.trans' F2 (fun i hi e => by have := (hbk i e).1; omega))
      have HC := Lib.hid (strCompact_any (sortS pk) hown2 (by rw [HSL.out]; omega))
      have hbk2 := (Vals.of_own hown2).2
      have hcl := Lib.compact_length_le (sortS pk)
      rw [HSL.out] at hcl
      clear F2 hown2 HS hbk
      generalize sortS pk = sk at *
      go_wp2_with fail
      refine HC.out.mono ?_
      rintro e w3 ⟨⟨v3, rfl, hown3⟩, F3⟩
      have HF3 := Lib.hid (HF2.out.trans' F3 (fun i hi e => by have := (hbk2 i e).1; omega))
      have hv3 := (Vals.of_own hown3).1
      have hjl2 := join_len 43 160001100 (Lib.compact sk) HKL.out
      have HJ := Lib.hid (strJoin_any (Lib.compact sk) 43 v3 w3 hv3 (by omega) (by
        have : (Lib.compact sk).length * (160001100 + 1) ≤ 100 * (160001100 + 1) := Nat.mul_le_mul_right _ (by omega)
        omega))
      obtain ⟨a3, m3, c3, rfl, -⟩ := own_shape hown3
      clear F3 hown3 HC hbk2 hv3 hjl2
      generalize Lib.compact sk = ck at *
      go_wp2_with fail
      refine HJ.out.mono ?_
      rintro e w4 ⟨rfl, F4⟩
      go_wp2_with fail
      go_ret
      exact ⟨by rw [HRES.out]; rfl, HF3.out.trans F4⟩
end Go.Proofs.YthjcoolefboodaaGreatDoor
