/-
  Merged by program: XNFold XNFold2 XNUtf8 XNHex XNWords XNStep XNameOf XNConcat XNRdnK XNSame XNTexts XR04 XR14W XR01 XR14S XNRow XNClone XGRow XGAll XNSort XNSheet XNSheet2 XNSheet3 XNSheet4 XNWrite XR14B XNbLaw XMany XGenSpec XNsLaw XNsTo XNKept XNaOf XGenAt XRdG XHeld.
-/
import Derived.Test.YthamenngccaijaaGreatDoorD0a
import Derived.Test.YthamenngccaijaaGreatDoorD0b
import Derived.Lib.AppendZerosOnto
import Derived.Lib.SliceRun
import Derived.Lib.Walk
import Derived.Deep.RegionLaw
import Derived.Laws.OwnMore
import Derived.Deep.CutRange
import Derived.Deep.Cut
import Derived.Deep.Strs
namespace Go.Q
open Go Go.RowKit
def blankB (n : Int) : Bool := decide (n = 32 ∨ (9 ≤ n ∧ n ≤ 13))
def smallS (n : Int) : Int := if 65 ≤ n ∧ n ≤ 90 then n + 32 else n
def foldStep (s : List Int × Bool) (n : Int) : List Int × Bool :=
  if blankB n = true then (s.1, decide (0 < s.1.length)) else ((if s.2 = true then s.1 ++ [32] else s.1) ++ [smallS n], false)
def foldS (l : List Int) : List Int := (l.foldl foldStep ([], false)).1
def FoldAt (w : World) (g d base : Nat) (s : List Int × Bool) : Prop :=
  ∃ v, Blk w g 105 #[v] ∧ Blk w d 4 #[.bool s.2] ∧ w.ownsRow base 3 1 v s.1.length (intCells s.1) ∧ (∀ k, v.ownBlock = some k → k ≠ g ∧ k ≠ d)
end Go.Q
namespace Go.Proofs.YthamenngccaijaaGreatDoor
open Go Go.RowKit Go.Q
theorem blank_any (n : Int) (w : World) :
    Calls Tryz.prog 313 #[.int .i64 n] w fun e w' => e = .returned (.bool (blankB n)) ∧ w = w' := by
  have hc : n = 32 ∨ (n ≠ 32 ∧ n < 9) ∨ (9 ≤ n ∧ n ≤ 13) ∨ (n ≠ 32 ∧ 13 < n) := by omega
  rcases hc with rfl | ⟨h1, h2⟩ | ⟨h1, h2⟩ | ⟨h1, h2⟩
  · go_enter Tryz.func313, Tryz.ntmps313
    go_wp2_with fail
    go_ret
    exact ⟨rfl, rfl⟩
  · have hb : blankB n = false := decide_eq_false (by omega)
    have HB := Lib.hid hb
    have q1 : (n == 32) = false := beq_eq_false_iff_ne.2 h1
    have q2 : ¬ (9 : Int) ≤ n := by omega
    clear hb
    go_enter Tryz.func313, Tryz.ntmps313
    go_wp2_with fail
    go_ret
    exact ⟨by rw [HB.out]; rfl, rfl⟩
  · have hb : blankB n = true := decide_eq_true (by omega)
    have HB := Lib.hid hb
    have q1 : (n == 32) = false := beq_eq_false_iff_ne.2 (by omega)
    clear hb
    go_enter Tryz.func313, Tryz.ntmps313
    go_wp2_with fail
    go_ret
    exact ⟨by rw [HB.out]; rfl, rfl⟩
  · have hb : blankB n = false := decide_eq_false (by omega)
    have HB := Lib.hid hb
    have q1 : (n == 32) = false := beq_eq_false_iff_ne.2 h1
    have q2 : (9 : Int) ≤ n := by omega
    have q3 : ¬ n ≤ (13 : Int) := by omega
    clear hb
    go_enter Tryz.func313, Tryz.ntmps313
    go_wp2_with fail
    go_ret
    exact ⟨by rw [HB.out]; rfl, rfl⟩
theorem small_any (n : Int) (w : World) :
    Calls Tryz.prog 228 #[.int .i64 n] w fun e w' => e = .returned (.int .i64 (smallS n)) ∧ w = w' := by
  by_cases h1 : (65 : Int) ≤ n
  · by_cases h2 : n ≤ (90 : Int)
    · have hb : smallS n = n + 32 := if_pos ⟨h1, h2⟩
      have HB := Lib.hid hb
      clear hb
      go_enter Tryz.func228, Tryz.ntmps228
      go_wp2_with fail
      go_ret
      exact ⟨by rw [HB.out]; rfl, rfl⟩
    · have hb : smallS n = n := if_neg (by omega)
      have HB := Lib.hid hb
      clear hb
      go_enter Tryz.func228, Tryz.ntmps228
      go_wp2_with fail
      go_ret
      exact ⟨by rw [HB.out]; rfl, rfl⟩
  · have hb : smallS n = n := if_neg (by omega)
    have HB := Lib.hid hb
    clear hb
    go_enter Tryz.func228, Tryz.ntmps228
    go_wp2_with fail
    go_ret
    exact ⟨by rw [HB.out]; rfl, rfl⟩
set_option maxRecDepth 20000 in
set_option maxHeartbeats 1000000 in
theorem foldPut_any {w : World} {base : Nat} (n : Int) (g d : Nat) (s : List Int × Bool) (hgd : g ≠ d) (h : FoldAt w g d base s) (hb : base ≤ w.heap.size) (hm : s.1.length ≤ 10995116277) :
    Calls Tryz.prog 312 #[.int .i64 n, pt g, pt d] w fun e w' => e = .returned (.tuple #[]) ∧ FoldAt w' g d base (foldStep s n) ∧ Fr (fun k => k = g ∨ k = d ∨ base ≤ k) w w' := by
  obtain ⟨xs, due⟩ := s
  obtain ⟨v, BG, BD, hown, ho⟩ := h
  simp only at BG BD hown hm
  obtain ⟨a, m, c, rfl, rfl⟩ := own_shape hown
  have HOWN := Lib.hid hown
  have hbase := (Vals.of_own hown).2
  have HBA := Lib.hid hbase
  have g0 := BG.cell 0
  have g1 := BG.frozen 0
  have d0 := BD.cell 0
  have d1 := BD.frozen 0
  simp at g0 d0
  cases hbl : blankB n with
  | true =>
    have HB := Lib.hid (blank_any n w)
    rw [hbl] at HB
    have hst : foldStep (xs, due) n = (xs, decide (0 < xs.length)) := by unfold foldStep; rw [hbl]; rfl
    have HST := Lib.hid hst
    clear hst hown hbase hbl
    have hd : ∀ z : Bool, decide (0 < xs.length) = z → FoldAt (w.setCell ⟨d, 0, none⟩ (.bool z)) g d base (foldStep (xs, due) n) ∧ Fr (fun k => k = g ∨ k = d ∨ base ≤ k) w (w.setCell ⟨d, 0, none⟩ (.bool z)) := by
      intro z hz
      have F : Fr (fun k => k = d) w (w.setCell ⟨d, 0, none⟩ (.bool z)) := Fr.setCell (S := fun k => k = d) (p := ⟨d, 0, none⟩) (Fr.refl w) (fun _ => rfl) _
      have BD2 := BD.set 0 (.bool z)
      simp at BD2
      rw [HST.out, hz]
      exact ⟨⟨_, BG.fr F hgd, BD2, ownsRow_fr HOWN.out F (fun k hk e => (ho k hk).2 e), ho⟩, F.mono (fun _ _ h => .inr (.inl h))⟩
    have HD := Lib.hid hd
    clear hd
    go_enter Tryz.func312, Tryz.ntmps312
    go_wp2_with fail
    refine HB.out.mono ?_
    rintro e w' ⟨rfl, rfl⟩
    go_wp2_with fail
    refine bodyPost_ret (results_none rfl _ _ _) rfl ?_
    exact ⟨rfl, HD.out _ rfl⟩
  | false =>
    have HB := Lib.hid (blank_any n w)
    rw [hbl] at HB
    have last : ∀ (w3 : World) (v3 : Value) (m3 : Nat) (ys : List Int), Blk w3 g 105 #[v3] → Blk w3 d 4 #[.bool false] → w3.ownsRow base 3 1 v3 m3 (intCells ys) → (∀ k, v3.ownBlock = some k → k ≠ g ∧ k ≠ d) → base ≤ w3.heap.size → m3 ≤ 10995116278 → Fr (fun k => k = g ∨ k = d ∨ base ≤ k) w w3 → foldStep (xs, due) n = (ys ++ [smallS n], false) →
        ∃ a c w', (Builtin.append_ #[105, 105] 105 #[v3, .slice (some ⟨w3.heap.size, 0, none⟩) 1 1]).run Tryz.prog ((w3.alloc (.cells #[.int .i64 (smallS n)] 3)).drew) = .ok (.slice a (m3 + 1) c) w' ∧ Blk w' g 105 #[v3] ∧ FoldAt (w'.setCell ⟨g, 0, none⟩ (.slice a (m3 + 1) c)) g d base (foldStep (xs, due) n) ∧ Fr (fun k => k = g ∨ k = d ∨ base ≤ k) w (w'.setCell ⟨g, 0, none⟩ (.slice a (m3 + 1) c)) := by
      intro w3 v3 m3 ys BG3 BD3 own3 ho3 hb3 hm3 F3 hst
      have F4 : Fr (fun _ => False) w3 ((w3.alloc (.cells #[.int .i64 (smallS n)] 3)).drew) := ((Fr.refl w3).alloc _).drew
      obtain ⟨a, c, w', hrun, own', F5, hk5⟩ := add_int own3 hb3 (by omega) (smallS n) w3.heap.size F4 (Blk.new w3 3 #[.int .i64 (smallS n)]).drew
      have BG5 := BG3.fr F5 (fun e => (ho3 g e).1 rfl)
      have BD5 := BD3.fr F5 (fun e => (ho3 d e).2 rfl)
      have lg := BG3.lt
      have ld := BD3.lt
      have hne : ∀ k, (Value.slice a (m3 + 1) c).ownBlock = some k → k ≠ g ∧ k ≠ d := fun k hk => by
        rcases hk5 k hk with h | h
        · exact ho3 k h
        · exact ⟨by omega, by omega⟩
      have F6 : Fr (fun k => k = g) w' (w'.setCell ⟨g, 0, none⟩ (.slice a (m3 + 1) c)) := Fr.setCell (S := fun k => k = g) (p := ⟨g, 0, none⟩) (Fr.refl w') (fun _ => rfl) _
      have BG6 := BG5.set 0 (.slice a (m3 + 1) c)
      simp at BG6
      have hlen : m3 + 1 = (ys ++ [smallS n]).length := by
        have := own3.1
        rw [intCells_len, Nat.mul_one] at this
        simp [this]
      refine ⟨a, c, w', hrun, BG5, ?_, (F3.trans (F5.mono (fun k hk e => ?_))).trans (F6.mono (fun _ _ h => .inl h))⟩
      · rw [hst]
        refine ⟨_, BG6, BD5.fr F6 (fun e => hgd e.symm), ?_, hne⟩
        simp only
        rw [← hlen]
        exact ownsRow_fr own' F6 (fun k hk e => (hne k hk).1 e)
      · exact .inr (.inr ((Vals.of_own own3).2 k e).1)
    have HL := Lib.hid last
    clear last
    cases due with
    | false =>
      have hst : foldStep (xs, false) n = (xs ++ [smallS n], false) := by unfold foldStep; rw [hbl]; rfl
      obtain ⟨a7, c7, w7, hrun, BG7, hfin, hF7⟩ := HL.out w _ xs.length xs BG BD HOWN.out ho hb (by omega) (Fr.refl w) hst
      have HRUN := Lib.hid hrun
      have HFIN := Lib.hid hfin
      have HF7 := Lib.hid hF7
      have g7 := BG7.cell 0
      have f7 := BG7.frozen 0
      have hal := alloc_old
      have lg := BG.lt
      simp at g7
      clear hst hrun hfin hF7 hown hbase hbl
      go_enter Tryz.func312, Tryz.ntmps312
      go_wp2_with fail
      refine HB.out.mono ?_
      rintro e w' ⟨rfl, rfl⟩
      go_wp2_with fail
      go_region_law (first | (refine step_append_run (by rfl) (.tmp 13) (.tmp 16) 105 (by rfl) _ w7 (by exact HRUN.out) ?_) | (go_simp; go_at_call 228; refine (small_any n _).mono ?_; rintro e w' ⟨rfl, rfl⟩))
      all_goals
        go_wp2_with fail
        go_end0
        exact ⟨rfl, HFIN.out, HF7.out⟩
    | true =>
      have hst : foldStep (xs, true) n = ((xs ++ [32]) ++ [smallS n], false) := by unfold foldStep; rw [hbl]; rfl
      have F1 : Fr (fun _ => False) w (w.alloc (.cells #[.int .i64 32] 3)) := (Fr.refl w).alloc _
      obtain ⟨a1, c1, w1, hrun1, own1, F2, hk1⟩ := add_int HOWN.out hb (by omega) 32 w.heap.size F1 (Blk.new w 3 #[.int .i64 32])
      have lg := BG.lt
      have ld := BD.lt
      have BG1 := BG.fr F2 (fun e => (ho g e).1 rfl)
      have BD1 := BD.fr F2 (fun e => (ho d e).2 rfl)
      have hne : ∀ k, (Value.slice a1 (xs.length + 1) c1).ownBlock = some k → k ≠ g ∧ k ≠ d := fun k hk => by
        rcases hk1 k hk with h | h
        · exact ho k h
        · exact ⟨by omega, by omega⟩
      have F3 : Fr (fun k => k = g ∨ k = d) w1 ((w1.setCell ⟨g, 0, none⟩ (.slice a1 (xs.length + 1) c1)).setCell ⟨d, 0, none⟩ (.bool false)) := ((Fr.refl w1).setCell (p := ⟨g, 0, none⟩) (fun _ => .inl rfl) _).setCell (p := ⟨d, 0, none⟩) (fun _ => .inr rfl) _
      have BG3 := (BG1.set 0 (.slice a1 (xs.length + 1) c1)).set_other (a := ⟨d, 0, none⟩) hgd (.bool false)
      have BD3 := (BD1.set_other (a := ⟨g, 0, none⟩) (fun e => hgd e.symm) (.slice a1 (xs.length + 1) c1)).set 0 (.bool false)
      simp at BG3 BD3
      have own3 := ownsRow_fr own1 F3 (fun k hk e => by have := hne k hk; omega)
      have G3 : Fr (fun k => k = g ∨ k = d ∨ base ≤ k) w ((w1.setCell ⟨g, 0, none⟩ (.slice a1 (xs.length + 1) c1)).setCell ⟨d, 0, none⟩ (.bool false)) := (F2.mono (fun k hk e => .inr (.inr (HBA.out k e).1))).trans (F3.mono (fun k _ h => h.elim .inl (fun h => .inr (.inl h))))
      obtain ⟨a7, c7, w7, hrun, BG7, hfin, hF7⟩ := HL.out _ _ (xs.length + 1) (xs ++ [32]) BG3 BD3 own3 hne (Nat.le_trans hb G3.size) (by omega) G3 hst
      have HRUN1 := Lib.hid hrun1
      have HRUN := Lib.hid hrun
      have HFIN := Lib.hid hfin
      have HF7 := Lib.hid hF7
      have HBG3 := Lib.hid BG3
      have p0 := BG1.cell 0
      have p1 := BG1.frozen 0
      have r0 := BD1.cell 0
      have r1 := BD1.frozen 0
      have g7 := BG7.cell 0
      have f7 := BG7.frozen 0
      simp at g7 p0 r0
      clear hst hrun hrun1 hfin hF7 hown hbase hbl own1 own3 BG3 BD3 F3 G3 F2 F1 BG1 BD1 hk1 hne
      go_enter Tryz.func312, Tryz.ntmps312
      go_wp2_with fail
      refine HB.out.mono ?_
      rintro e w' ⟨rfl, rfl⟩
      have hgd' : d ≠ g := fun e => hgd e.symm
      go_upto_region 5 with (at_builtin; refine wpList_append_run (by rfl) (.tmp 10) (.tmp 11) 105 (by rfl) _ w1 (by exact HRUN1.out) ?_)
      generalize ((w1.setCell ⟨g, 0, none⟩ (.slice a1 (xs.length + 1) c1)).setCell ⟨d, 0, none⟩ (.bool false)) = w3 at *
      have g3 := HBG3.out.cell 0
      have hal := alloc_old
      have lg3 := HBG3.out.lt
      simp at g3
      go_region_law (first | (refine step_append_run (by rfl) (.tmp 13) (.tmp 16) 105 (by rfl) _ w7 (by exact HRUN.out) ?_) | (go_simp; go_at_call 228; refine (small_any n _).mono ?_; rintro e w' ⟨rfl, rfl⟩))
      all_goals
        go_wp2_with fail
        go_end0
        exact ⟨rfl, HFIN.out, HF7.out⟩
end Go.Proofs.YthamenngccaijaaGreatDoor

namespace Go.Q
open Go Go.RowKit
def foldAcc (l : List Int) : List Int × Bool := l.foldl foldStep ([], false)
theorem foldAcc_take {l : List Int} {j : Nat} {n : Int} (h : l[j]? = some n) : foldAcc (l.take (j + 1)) = foldStep (foldAcc (l.take j)) n := by
  unfold foldAcc
  rw [List.take_add_one, h]
  simp [List.foldl_append]
theorem foldStep_len (s : List Int × Bool) (n : Int) : (foldStep s n).1.length ≤ s.1.length + 2 := by
  unfold foldStep
  split
  · simp
  · split <;> simp
theorem foldAcc_len (l : List Int) : (foldAcc l).1.length ≤ 2 * l.length := by
  have : ∀ (l : List Int) (s : List Int × Bool), (l.foldl foldStep s).1.length ≤ s.1.length + 2 * l.length := by
    intro l
    induction l with
    | nil => intro s; simp
    | cons n l ih =>
      intro s
      have h1 := ih (foldStep s n)
      have h2 := foldStep_len s n
      simp only [List.foldl_cons, List.length_cons]
      omega
  have h := this l ([], false)
  simpa [foldAcc] using h
end Go.Q
namespace Go.Proofs.YthamenngccaijaaGreatDoor
open Go Go.RowKit Go.Q
set_option maxRecDepth 20000 in
set_option maxHeartbeats 1000000 in
theorem foldSigns_any (v : Value) (l : List Int) (w : World) (h : Ints w v l) (hl : l.length ≤ 1099511627) :
    Calls Tryz.prog 288 #[v] w fun e w' => (∃ u, e = .returned u ∧ w'.ownsRow w.heap.size 3 1 u (foldS l).length (intCells (foldS l))) ∧ Fr (fun _ => False) w w' := by
  have H := Lib.hid h
  obtain ⟨a, cap, rfl, -⟩ := Ints.form h
  obtain ⟨z, hz⟩ : ∃ z, z = w.heap.size := ⟨_, rfl⟩
  have HZ := Lib.hid hz
  have F0 : Fr (fun _ => False) w ((w.alloc (.cells #[.slice none 0 0] 105)).alloc (.cells #[.bool false] 4)) := ((Fr.refl w).alloc _).alloc _
  have BG0 := (Blk.new w 105 #[.slice none 0 0]).alloc (.cells #[.bool false] 4)
  have BD0 := Blk.new (w.alloc (.cells #[.slice none 0 0] 105)) 4 #[.bool false]
  have hs0 : ((w.alloc (.cells #[.slice none 0 0] 105)).alloc (.cells #[.bool false] 4)).heap.size = z + 2 := by rw [World.size_alloc, World.size_alloc, hz]
  rw [World.size_alloc, ← hz] at BD0
  rw [← hz] at BG0
  have A0 : FoldAt ((w.alloc (.cells #[.slice none 0 0] 105)).alloc (.cells #[.bool false] 4)) z (z + 1) (z + 2) ([], false) := ⟨_, BG0, BD0, ⟨rfl, .inl ⟨rfl, rfl⟩⟩, fun k hk => by simp [Value.ownBlock] at hk⟩
  have HA0 := Lib.hid A0
  have HF0 := Lib.hid F0
  have HS0 := Lib.hid hs0
  clear h hz F0 BG0 BD0 A0 hs0
  go_enter Tryz.func288, Tryz.ntmps288
  go_upto_region 4 with fail
  rw [← HZ.out]
  generalize ((w.alloc (.cells #[.slice none 0 0] 105)).alloc (.cells #[.bool false] 4)) = w1 at *
  go_wp2_with fail
  go_loopg [11] l.length (fun g i wr => ∃ j : Nat, g = l.length - j ∧ j ≤ l.length ∧ i = .int .i64 j ∧ FoldAt wr z (z + 1) (z + 2) (foldAcc (l.take j)) ∧ Fr (fun _ => False) w wr ∧ z + 2 ≤ wr.heap.size)
  case atStart => exact ⟨0, rfl, Nat.zero_le _, rfl, HA0.out, HF0.out, by have := HS0.out; omega⟩
  case round =>
    obtain ⟨j, hg, hj, rfl, hA, F, hsz⟩ := hrel
    have HG := Lib.hid hg
    have HA := Lib.hid hA
    have HF := Lib.hid F
    clear hg hA F
    by_cases hjl : j < l.length
    · obtain ⟨a0, cap0, he, _, _, hx⟩ := Ints.form (H.out.old HF.out)
      simp only [Value.slice.injEq, true_and] at he
      obtain ⟨rfl, rfl⟩ := he
      obtain ⟨b, off, rfl, hy⟩ := hx (by omega)
      obtain ⟨n, hn⟩ : ∃ n, l[j]? = some n := ⟨_, List.getElem?_eq_getElem hjl⟩
      have e1 := hy j n hn
      have hft := foldAcc_take hn
      have HFT := Lib.hid hft
      have r1 : (0 : Int) ≤ (j : Int) := by omega
      have r2 : (j : Int) < (l.length : Int) := by omega
      have hlen := foldAcc_len (l.take j)
      rw [List.length_take] at hlen
      have HP := Lib.hid (foldPut_any n z (z + 1) _ (by omega) HA.out hsz (by omega))
      clear hx hy hn hft hlen
      go_wp2_with fail
      refine HP.out.mono ?_
      rintro e w2 ⟨rfl, hA2, F2⟩
      rw [← HFT.out] at hA2
      have HA2 := Lib.hid hA2
      have HF2 := Lib.hid (HF.out.trans' F2 (fun i hi e => by have := HZ.out; omega))
      have hs2 := F2.size
      clear hA2 F2
      go_wp2_with fail
      go_roundg (l.length - (j + 1))
      case measure => rw [HG.out]; omega
      case rel => exact ⟨j + 1, rfl, by omega, by go_num, HA2.out, HF2.out, by omega⟩
    · have hall : l.take j = l := List.take_of_length_le (by omega)
      obtain ⟨u, BG, _, hown, _⟩ := HA.out
      rw [hall] at hown
      have hown := own_le hown (base' := w.heap.size) (by have := HZ.out; omega)
      have HO := Lib.hid hown
      have g0 := BG.cell 0
      simp at g0
      clear hown hall
      go_wp2_with fail
      go_ret
      exact ⟨⟨_, rfl, HO.out⟩, HF.out⟩
end Go.Proofs.YthamenngccaijaaGreatDoor

namespace Go.Q
open Go Go.RowKit
theorem may12 {k n : Int} (h : mayS k n = true) : mayS 12 n = true := by
  unfold mayS at h ⊢
  rw [if_pos rfl]
  have hs : surr n = decide (55296 ≤ n ∧ n ≤ 57343) := rfl
  split at h
  · exact h
  split at h
  · rw [Bool.and_eq_true] at h
    have h1 := of_decide_eq_true h.1
    rw [hs, decide_eq_true (by omega), decide_eq_false (by omega)]
    rfl
  split at h
  · have h1 := of_decide_eq_true h
    rw [hs, decide_eq_true (by omega), decide_eq_false (by omega)]
    rfl
  split at h
  · have h1 := of_decide_eq_true h
    rw [hs, decide_eq_true (by omega), decide_eq_false (by omega)]
    rfl
  split at h
  · have h1 := of_decide_eq_true h
    rw [hs, decide_eq_true (by omega), decide_eq_false (by omega)]
    rfl
  split at h
  · rw [Bool.and_eq_true] at h
    have h1 := of_decide_eq_true h.1
    rw [h.2, decide_eq_true (by omega)]
    rfl
  · cases h
theorem right_all {k : Int} {b : List UInt8} (h : rightS k b = true) : ∀ n ∈ signsS k b, mayS k n = true := by
  unfold rightS at h
  rw [Bool.and_eq_true] at h
  exact List.all_eq_true.1 h.2
def utf8S (k : Int) (b : List UInt8) : List UInt8 := ofS 12 (signsS k b)
def foldKeyS (k : Int) (b : List UInt8) : List UInt8 := ofS 12 (foldS (signsS k b))
theorem small_may {n : Int} (h : mayS 12 n = true) : mayS 12 (smallS n) = true := by
  unfold smallS
  split
  · unfold mayS surr
    rw [if_pos rfl, decide_eq_true (by omega), decide_eq_false (by omega)]
    rfl
  · exact h
theorem fold_may {l : List Int} (h : ∀ n ∈ l, mayS 12 n = true) : ∀ n ∈ foldS l, mayS 12 n = true := by
  have : ∀ (l : List Int) (s : List Int × Bool), (∀ n ∈ l, mayS 12 n = true) → (∀ n ∈ s.1, mayS 12 n = true) → ∀ n ∈ (l.foldl foldStep s).1, mayS 12 n = true := by
    intro l
    induction l with
    | nil => intro s _ h; exact h
    | cons m l ih =>
      intro s h1 h2
      refine ih (foldStep s m) (fun n hn => h1 n (List.mem_cons_of_mem _ hn)) (fun n hn => ?_)
      unfold foldStep at hn
      split at hn
      · exact h2 n hn
      · have hm := small_may (h1 m List.mem_cons_self)
        simp only [List.mem_append, List.mem_singleton] at hn
        rcases hn with hn | hn
        · split at hn
          · rcases List.mem_append.1 hn with h | h
            · exact h2 n h
            · rw [List.mem_singleton.1 h]; rfl
          · exact h2 n hn
        · rw [hn]; exact hm
  exact this l ([], false) h (by simp)
end Go.Q
namespace Go.Proofs.YthamenngccaijaaGreatDoor
open Go Go.RowKit Go.Q
set_option maxRecDepth 20000 in
set_option maxHeartbeats 1000000 in
theorem foldKey_any (k : Int) (v : Value) (b : List UInt8) (w : World) (hv : Bytes w v b) (hT : Tabs w) (hok : rightS k b = true) (hbl : b.length ≤ 16777216) :
    Calls Tryz.prog 252 #[.agg #[.int .i64 k, v]] w fun e w' => e = .returned (.tuple #[str (foldKeyS k b), .int .i64 0]) ∧ Fr (fun _ => False) w w' := by
  obtain ⟨a, cap, rfl, -⟩ := hv.form
  obtain ⟨z, hz⟩ : ∃ z, z = w.heap.size := ⟨_, rfl⟩
  have F0 : Fr (fun _ => False) w (w.alloc (.cells #[.int .i64 k, .slice a b.length cap] 172)) := (Fr.refl w).alloc _
  have B0 := Blk.new w 172 #[.int .i64 k, .slice a b.length cap]
  rw [← hz] at B0
  have HS := Lib.hid (signsText_any k _ b _ (hv.old F0) (hT.old F0) (by omega) hok)
  have hm := Lib.hid (fold_may (fun n hn => may12 (right_all hok n hn)))
  have hl := signsS_len k b
  have HZ := Lib.hid hz
  have HF0 := Lib.hid F0
  have hu : foldKeyS k b = ofS 12 (foldS (signsS k b)) := rfl
  have HU := Lib.hid hu
  clear F0 hz hok hv hT hu
  generalize signsS k b = sg at *
  have hfl : (foldS sg).length ≤ 2 * sg.length := foldAcc_len sg
  go_enter Tryz.func252, Tryz.ntmps252
  go_upto_region 1 with fail
  rw [← HZ.out]
  generalize (w.alloc (.cells #[.int .i64 k, .slice a b.length cap] 172)) = w1 at *
  have t0 := B0.cell 0
  have t1 := B0.cell 1
  simp at t0 t1
  go_wp2_with fail
  refine HS.out.mono ?_
  rintro e w2 ⟨⟨u2, rfl, ho2⟩, F2⟩
  have hi2 := (Vals.of_own ho2).1
  obtain ⟨a2, m2, c2, rfl, rfl⟩ := own_shape ho2
  have HG := Lib.hid (foldSigns_any _ sg w2 hi2 (by omega))
  have HF2 := Lib.hid (HF0.out.trans F2)
  clear HS HF0 F2 ho2 t0 t1 B0 hi2
  go_wp2_with fail
  refine HG.out.mono ?_
  rintro e w4 ⟨⟨u4, rfl, ho4⟩, F4⟩
  have hi4 := (Vals.of_own ho4).1
  obtain ⟨a4, m4, c4, rfl, rfl⟩ := own_shape ho4
  have HO := Lib.hid (ofText_any 12 _ (foldS sg) w4 hi4 rfl hm.out (by omega))
  have HF4 := Lib.hid (HF2.out.trans F4)
  clear HG HF2 F4 ho4 hi4
  generalize foldS sg = fs at *
  go_wp2_with fail
  refine HO.out.mono ?_
  rintro e w3 ⟨⟨u3, rfl, ho3⟩, F3⟩
  have hb3 := (Vals.of_own ho3).1
  obtain ⟨a3, m3, c3, rfl, rfl⟩ := own_shape ho3
  have hs3 : ∀ o, (Go.convert 23 9 (.slice a3 (ofS 12 fs).length c3)).run Tryz.prog (w3.alloc o) = .ok (str (ofS 12 fs)) (w3.alloc o) := fun o => str_of (hb3.old ((Fr.refl w3).alloc o))
  have HF3 := Lib.hid ((HF4.out.trans F3).alloc (.cells #[.int .i64 12, .slice a3 (ofS 12 fs).length c3] 172))
  clear HO HF4 F3 ho3 hb3
  go_wp2_with fail
  refine bodyPost_ret (v := .tuple #[str (ofS 12 fs), .int .i64 0]) (by simp [results, Tryz.results252, go_sem]) rfl ⟨by rw [HU.out], HF3.out⟩
end Go.Proofs.YthamenngccaijaaGreatDoor

namespace Go.Q
open Go Go.RowKit
def hexN (n : Int) : Int := if n < 10 then 48 + n else 87 + n
def hex1 (x : UInt8) : List UInt8 := [UInt8.ofNat (hexN ((x.toNat : Int) / 16)).toNat, UInt8.ofNat (hexN ((x.toNat % 16 : Nat) : Int)).toNat]
def hexS (l : List UInt8) : List UInt8 := l.flatMap hex1
theorem hexS_take {l : List UInt8} {j : Nat} {x : UInt8} (h : l[j]? = some x) : hexS (l.take (j + 1)) = hexS (l.take j) ++ hex1 x := by
  unfold hexS
  rw [List.take_add_one, h]
  simp
theorem hexS_len (l : List UInt8) : (hexS l).length = 2 * l.length := by
  induction l with
  | nil => rfl
  | cons x l ih =>
    have : hexS (x :: l) = hex1 x ++ hexS l := rfl
    rw [this, List.length_append, ih]
    simp only [hex1, List.length_cons, List.length_nil]
    omega
theorem hexN_lt (n : Int) (h0 : 0 ≤ n) (h1 : n < 16) : 48 ≤ hexN n ∧ hexN n < 103 := by unfold hexN; split <;> omega
end Go.Q
namespace Go.Proofs.YthamenngccaijaaGreatDoor
open Go Go.RowKit Go.Q
theorem digit_any (n : Int) (h0 : 0 ≤ n) (h1 : n < 16) (w : World) :
    Calls Tryz.prog 177 #[.int .u8 n] w fun e w' => e = .returned (.int .u8 (hexN n)) ∧ w = w' := by
  by_cases hc : n < 10
  · have hb : hexN n = 48 + n := if_pos hc
    have HB := Lib.hid hb
    have hw : IntKind.u8.wrap (48 + n) = 48 + n := by simp [IntKind.wrap, IntKind.signed, IntKind.bits]; omega
    clear hb
    go_enter Tryz.func177, Tryz.ntmps177
    go_wp2_with fail
    go_ret
    refine ⟨?_, rfl⟩
    rw [HB.out]
    first | rfl | rw [hw]
  · have hb : hexN n = 87 + n := if_neg hc
    have HB := Lib.hid hb
    have hw : IntKind.u8.wrap (97 + n) = 97 + n := by simp [IntKind.wrap, IntKind.signed, IntKind.bits]; omega
    have hw2 : IntKind.u8.wrap (97 + n - 10) = 87 + n := by simp [IntKind.wrap, IntKind.signed, IntKind.bits]; omega
    clear hb
    go_enter Tryz.func177, Tryz.ntmps177
    go_wp2_with fail
    go_ret
    refine ⟨?_, rfl⟩
    rw [HB.out]
    first | rfl | (rw [hw, hw2])
set_option maxRecDepth 20000 in
set_option maxHeartbeats 1000000 in
theorem hex_any (v : Value) (l : List UInt8) (w : World) (h : Bytes w v l) (hl : l.length ≤ 109951162) :
    Calls Tryz.prog 137 #[v] w fun e w' => e = .returned (str (hexS l)) ∧ Fr (fun _ => False) w w' := by
  have H := Lib.hid h
  obtain ⟨a, cap, rfl, -⟩ := h.form
  obtain ⟨i0, hi0, hz0, hz1, hz2⟩ := info_parts info5
  have hmk := run_make (P := Tryz.prog) w 23 5 i0 _ Tryz.underlying23 hi0 hz0 .i64 .i64 0 (2 * (l.length : Int)) (by omega) (by omega) (by rw [hz2]; omega) (by omega)
  have hm2 : (2 * (l.length : Int)).toNat = 2 * l.length := by omega
  rw [hm2, hz1, Nat.mul_one] at hmk
  have hms : (madeCells (Value.int .u8 0).cells (2 * l.length)).size = 2 * l.length := by simp [madeCells]
  have B0 := Blk.new w 5 (madeCells (Value.int .u8 0).cells (2 * l.length))
  have own0 := own_block B0 0 (Nat.zero_le _) (by rw [hms]; unfold maxLen; omega) w.heap.size (Nat.le_refl _)
  rw [hms, List.take_zero] at own0
  have F0 : Fr (fun _ => False) w (w.alloc (.cells (madeCells (Value.int .u8 0).cells (2 * l.length)) 5)) := (Fr.refl w).alloc _
  have HO := Lib.hid own0
  have HF := Lib.hid F0
  generalize hwg : (w.alloc (.cells (madeCells (Value.int .u8 0).cells (2 * l.length)) 5)) = w1 at *
  have HM := Lib.hid hmk
  clear h hi0 hz0 hz1 hz2 hm2 hms B0 own0 F0 hwg hmk
  have hmk := HM.out
  go_enter Tryz.func137, Tryz.ntmps137
  go_wp2_with fail
  go_loopg [3, 12] l.length (fun g u i wr => ∃ (j : Nat) (au : Option Addr) (cu : Nat), g = l.length - j ∧ j ≤ l.length ∧ u = .slice au (2 * j) cu ∧ i = .int .i64 j ∧ wr.ownsRow w.heap.size 5 1 (.slice au (2 * j) cu) (2 * j) (Lib.byteCells (hexS (l.take j))) ∧ Fr (fun _ => False) w wr)
  case atStart => exact ⟨0, _, _, rfl, Nat.zero_le _, rfl, rfl, HO.out, HF.out⟩
  case round =>
    obtain ⟨j, au, cu, hg, hj, rfl, rfl, hown, F⟩ := hrel
    have HG := Lib.hid hg
    clear hg
    by_cases hjl : j < l.length
    · obtain ⟨a0, cap0, he, _, _, hx⟩ := (H.out.old F).form
      simp only [Value.slice.injEq, true_and] at he
      obtain ⟨rfl, rfl⟩ := he
      obtain ⟨b, off, rfl, hy⟩ := hx (by omega)
      obtain ⟨x, hn⟩ : ∃ n, l[j]? = some n := ⟨_, List.getElem?_eq_getElem hjl⟩
      have e1 := hy j x hn
      have HFT := Lib.hid (hexS_take hn)
      have hxl := x.toNat_lt
      have h15 := and15 x
      have hx1 : hex1 x = [UInt8.ofNat (hexN ((x.toNat : Int) / 16)).toNat, UInt8.ofNat (hexN ((x.toNat % 16 : Nat) : Int)).toNat] := rfl
      obtain ⟨y, hye⟩ : ∃ y : Nat, y = x.toNat := ⟨_, rfl⟩
      rw [← hye] at e1 hxl h15 hx1
      obtain ⟨r, hr⟩ : ∃ r : Nat, r = y % 16 := ⟨_, rfl⟩
      rw [← hr] at h15 hx1
      have hyl : y < 256 := hxl
      have hrl : r < 16 := by omega
      have b1 := hexN_lt ((y : Int) / 16) (by omega) (by omega)
      have b2 := hexN_lt (r : Int) (by omega) (by omega)
      have F1 : Fr (fun _ => False) wr (wr.alloc (.cells #[.int .u8 (hexN ((y : Int) / 16)), .int .u8 (hexN (r : Int))] 5)) := (Fr.refl wr).alloc _
      have hsrc : Bytes (wr.alloc (.cells #[.int .u8 (hexN ((y : Int) / 16)), .int .u8 (hexN (r : Int))] 5)) (.slice (some ⟨wr.heap.size, 0, none⟩) 2 2) (hex1 x) := by
        have h := Vals.of_block (Blk.new wr 5 #[.int .u8 (hexN ((y : Int) / 16)), .int .u8 (hexN (r : Int))]) (by unfold maxLen; simp)
        have e : Lib.byteCells (hex1 x) = [.int .u8 (hexN ((y : Int) / 16)), .int .u8 (hexN (r : Int))] := by
          rw [hx1]
          simp only [Lib.byteCells, List.map_cons, List.map_nil, u8 (hexN ((y : Int) / 16)).toNat (by omega), u8 (hexN (r : Int)).toNat (by omega)]
          rw [Int.toNat_of_nonneg (by omega), Int.toNat_of_nonneg (by omega)]
        show Vals _ _ (Lib.byteCells (hex1 x))
        rw [e]
        exact h
      obtain ⟨v', w2, hrun, h1, F2, _⟩ := append_bytes (ownsRow_fr hown F1 (fun _ _ h => h)) (some ⟨wr.heap.size, 0, none⟩) 2 2 (hex1 x) hsrc (by omega) (Nat.le_trans F.size F1.size)
      obtain ⟨a', m', c', rfl, rfl⟩ := own_shape h1
      have hbk := (Vals.of_own hown).2
      have HF2 := Lib.hid ((F.trans F1).trans' F2 (fun i hi e => by have := (hbk i e).1; omega))
      have HRUN := Lib.hid hrun
      have HOWN := Lib.hid h1
      have r1 : (0 : Int) ≤ (j : Int) := by omega
      have r2 : (j : Int) < (l.length : Int) := by omega
      clear hx hy hn hown F F1 F2 hsrc hrun h1 hbk hx1 hye hr hxl
      go_wp2_with (first | (go_at_call 177; refine (digit_any _ (by omega) (by omega) _).mono ?_; rintro e w' ⟨rfl, rfl⟩) | (at_builtin; refine wpList_append_run (by rfl) (.tmp 16) (.tmp 23) 23 (by rfl) _ w2 (by exact HRUN.out) ?_))
      go_roundg (l.length - (j + 1))
      case measure => rw [HG.out]; omega
      case rel => exact ⟨j + 1, a', c', rfl, by omega, rfl, by go_num, by rw [HFT.out]; exact HOWN.out, HF2.out⟩
    · have hall : l.take j = l := List.take_of_length_le (by omega)
      rw [hall] at hown
      have hs := Lib.hid (str_of (Vals.of_own hown).1)
      clear hown hall
      have hs1 := hs.out
      go_wp2_with fail
      go_ret
      exact ⟨rfl, F⟩
end Go.Proofs.YthamenngccaijaaGreatDoor

namespace Go.Q
open Go Go.RowKit
def attrKeyS (o : List Int) (b : List UInt8) : List UInt8 :=
  oidTextS o ++ (match textReadS b with
    | .ok (k, t, _) => [61, 116] ++ hexS (foldKeyS k t)
    | .error _ => [61, 98] ++ hexS b)
theorem foldKey_len (k : Int) (b : List UInt8) : (foldKeyS k b).length ≤ 8 * b.length := by
  have h1 := ofS_le 12 (foldS (signsS k b))
  have h2 : (foldS (signsS k b)).length ≤ 2 * (signsS k b).length := foldAcc_len _
  have h3 := signsS_len k b
  unfold foldKeyS
  omega
theorem textRead_ok {l b : List UInt8} {k : Int} {n : Nat} (h : textReadS l = .ok (k, b, n)) : rightS k b = true ∧ b.length ≤ l.length := by
  unfold textReadS at h
  split at h
  · cases h
  · split at h
    · cases h
    · split at h
      · cases h
      · split at h
        · rename_i hr
          simp only [Except.ok.injEq, Prod.mk.injEq] at h
          obtain ⟨rfl, rfl, -⟩ := h
          refine ⟨hr, ?_⟩
          rw [List.length_take, List.length_drop]
          omega
        · cases h
end Go.Q
namespace Go.Proofs.YthamenngccaijaaGreatDoor
open Go Go.RowKit Go.Q
def WordsOut (w' : World) (l : List UInt8) (e : Ending) : Prop :=
  match textReadS l with
  | .error _ => e = .returned (.tuple #[.agg #[.int .i64 0, .slice none 0 0], .bool false])
  | .ok (k, b, _) => ∃ u, e = .returned (.tuple #[.agg #[.int .i64 k, u], .bool true]) ∧ Bytes w' u b
set_option maxRecDepth 20000 in
set_option maxHeartbeats 1000000 in
theorem words_any (v : Value) (l : List UInt8) (w : World) (h : Bytes w v l) (hE : Env w) (hl : l.length ≤ 1099511627776) :
    Calls Tryz.prog 116 #[v] w fun e w' => WordsOut w' l e ∧ Fr (fun _ => False) w w' := by
  obtain ⟨z, hz⟩ : ∃ z, z = w.heap.size := ⟨_, rfl⟩
  have F0 : Fr (fun _ => False) w (w.alloc (.cells #[.int .i64 0, .slice none 0 0] 172)) := (Fr.refl w).alloc _
  have BZ := Blk.new w 172 #[.int .i64 0, .slice none 0 0]
  rw [← hz] at BZ
  have HN := Lib.hid (new_any _ v l (h.old F0) hl)
  have HE := Lib.hid (hE.old F0)
  have HZ := Lib.hid hz
  have HF0 := Lib.hid F0
  have hgl := hE.size
  clear h hE hz F0
  go_enter Tryz.func116, Tryz.ntmps116
  go_upto_region 1 with fail
  rw [← HZ.out]
  generalize (w.alloc (.cells #[.int .i64 0, .slice none 0 0] 172)) = w1 at *
  go_wp2_with fail
  refine HN.out.mono ?_
  rintro e w2 ⟨rfl, C2, F2⟩
  have BZ2 := BZ.fr F2 (fun h => h)
  have HE2 := HE.out.old F2
  have hs1 := HF0.out.size
  have hzl := BZ.lt
  obtain ⟨c, hc⟩ : ∃ c, c = w1.heap.size := ⟨_, rfl⟩
  rw [← hc] at C2 ⊢
  have hk1 : ¬ (4 = c ∨ 5 = c) := by
    have : gLim = gLim := rfl
    have h1 : 4 < gLim := by decide
    have h2 : 5 < gLim := by decide
    omega
  have HR := Lib.hid (textRead_any C2 HE2.tabs hk1)
  have HF2 := Lib.hid (HF0.out.trans F2)
  have hcz : z < c := by omega
  have hcw : w.heap.size ≤ c := by omega
  clear HN HF0 F2 BZ hc HE2 C2 hk1 HE
  go_wp2_with fail
  refine HR.out.mono ?_
  rintro e w3 ⟨hout, F3⟩
  have BZ3 := BZ2.fr F3 (by omega)
  have hlt3 := BZ3.lt
  have HF3 := Lib.hid (HF2.out.trans' F3 (fun i hi e => by omega))
  unfold TextOut at hout
  rw [List.drop_zero] at hout
  cases hr : textReadS l with
  | error x =>
    rw [hr] at hout
    obtain ⟨rfl, hx, C3⟩ := hout
    have hx1 : (x == 0) = false := beq_eq_false_iff_ne.2 hx
    have HRR := Lib.hid hr
    go_upto_region 2 with fail
    have BZ4 := BZ3.alloc (.cells #[.int .i64 0, .slice none 0 0] 172)
    have BY4 := Blk.new w3 172 #[.int .i64 0, .slice none 0 0]
    have F4 : Fr (fun _ => False) w3 (w3.alloc (.cells #[.int .i64 0, .slice none 0 0] 172)) := (Fr.refl w3).alloc _
    obtain ⟨y, hy⟩ : ∃ y, y = w3.heap.size := ⟨_, rfl⟩
    rw [← hy] at BY4 ⊢
    clear hy
    generalize (w3.alloc (.cells #[.int .i64 0, .slice none 0 0] 172)) = w4 at *
    have y0 := BY4.cell 0
    have y1 := BY4.cell 1
    simp only [List.getElem?_toArray, List.getElem?_cons_succ, List.getElem?_cons_zero] at y0 y1
    have z0 := BZ4.cell 0
    have z1 := BZ4.cell 1
    have f0 := BZ4.frozen 0
    have f1 := BZ4.frozen 1
    simp only [List.getElem?_toArray, List.getElem?_cons_succ, List.getElem?_cons_zero] at z0 z1
    obtain ⟨BZ5, F5⟩ := set2 BZ4 (.int .i64 0) (.slice none 0 0)
    have n0 := BZ5.cell 0
    have n1 := BZ5.cell 1
    simp only [List.getElem?_toArray, List.getElem?_cons_succ, List.getElem?_cons_zero] at n0 n1
    have HF5 := Lib.hid ((HF3.out.trans F4).trans' F5 (fun i hi e => by have := HZ.out; omega))
    clear hr C3 F3 F4 BZ2 BZ3 BZ4 BZ5 F5 BY4 HF2 HF3 HR hx
    go_wp2_with fail
    refine bodyPost_ret (v := .tuple #[.agg #[.int .i64 0, .slice none 0 0], .bool false]) (by simp [results, Tryz.results116, go_sem, n0, n1]) rfl ⟨?_, HF5.out⟩
    unfold WordsOut
    rw [HRR.out]
  | ok kbn =>
    obtain ⟨k, b, n⟩ := kbn
    rw [hr] at hout
    obtain ⟨⟨u, rfl, ho⟩, C3⟩ := hout
    have HRR := Lib.hid hr
    obtain ⟨au, mu, cu, rfl, rfl⟩ := own_shape ho
    go_upto_region 2 with fail
    have BZ4 := BZ3.alloc (.cells #[.int .i64 k, .slice au b.length cu] 172)
    have BY4 := Blk.new w3 172 #[.int .i64 k, .slice au b.length cu]
    have F4 : Fr (fun _ => False) w3 (w3.alloc (.cells #[.int .i64 k, .slice au b.length cu] 172)) := (Fr.refl w3).alloc _
    obtain ⟨y, hy⟩ : ∃ y, y = w3.heap.size := ⟨_, rfl⟩
    rw [← hy] at BY4 ⊢
    clear hy
    generalize (w3.alloc (.cells #[.int .i64 k, .slice au b.length cu] 172)) = w4 at *
    have y0 := BY4.cell 0
    have y1 := BY4.cell 1
    simp only [List.getElem?_toArray, List.getElem?_cons_succ, List.getElem?_cons_zero] at y0 y1
    have z0 := BZ4.cell 0
    have z1 := BZ4.cell 1
    have f0 := BZ4.frozen 0
    have f1 := BZ4.frozen 1
    simp only [List.getElem?_toArray, List.getElem?_cons_succ, List.getElem?_cons_zero] at z0 z1
    obtain ⟨BZ5, F5⟩ := set2 BZ4 (.int .i64 k) (.slice au b.length cu)
    have n0 := BZ5.cell 0
    have n1 := BZ5.cell 1
    simp only [List.getElem?_toArray, List.getElem?_cons_succ, List.getElem?_cons_zero] at n0 n1
    have HF5 := Lib.hid ((HF3.out.trans F4).trans' F5 (fun i hi e => by have := HZ.out; omega))
    have hzs := BZ2.lt
    have ho2 := ownsRow_fr (ownsRow_fr ho F4 (fun _ _ h => h)) F5 (fun q hq e => by have := ((Vals.of_own ho).2 q hq).1; omega)
    have HB := Lib.hid (Vals.of_own ho2).1
    clear hr C3 F3 F4 BZ2 BZ3 BZ4 BZ5 F5 BY4 HF2 HF3 HR ho ho2
    go_wp2_with fail
    refine bodyPost_ret (v := .tuple #[.agg #[.int .i64 k, .slice au b.length cu], .bool true]) (by simp [results, Tryz.results116, go_sem, n0, n1]) rfl ⟨?_, HF5.out⟩
    unfold WordsOut
    rw [HRR.out]
    exact ⟨_, rfl, HB.out⟩
set_option maxRecDepth 20000 in
set_option maxHeartbeats 1000000 in
theorem attrKey_any (x y : Value) (o : List Int) (b : List UInt8) (w : World) (hx : Ints w x o) (hy : Bytes w y b) (ho : oidOk o = true) (hl : b.length ≤ 10000000) (hE : Env w) :
    Calls Tryz.prog 204 #[.agg #[x, y]] w fun e w' => e = .returned (str (attrKeyS o b)) ∧ Fr (fun _ => False) w w' := by
  obtain ⟨ax, cx, rfl, -⟩ := Ints.form hx
  obtain ⟨ay, cy, rfl, -⟩ := Vals.form hy
  obtain ⟨z, hz⟩ : ∃ z, z = w.heap.size := ⟨_, rfl⟩
  have BZ := Blk.new w 108 #[.slice ax o.length cx, .slice ay b.length cy]
  have F0 : Fr (fun _ => False) w (w.alloc (.cells #[.slice ax o.length cx, .slice ay b.length cy] 108)) := (Fr.refl w).alloc _
  have HT := Lib.hid (oidText_any _ o _ (hx.old F0) ho (hE.old F0))
  have HY := Lib.hid (hy.old F0)
  have HE := Lib.hid (hE.old F0)
  rw [← hz] at BZ
  have HF0 := Lib.hid F0
  have HZ := Lib.hid hz
  have hk : attrKeyS o b = oidTextS o ++ (match textReadS b with | .ok (k, t, _) => [61, 116] ++ hexS (foldKeyS k t) | .error _ => [61, 98] ++ hexS b) := rfl
  have HK := Lib.hid hk
  have ho0 := Lib.hid ho
  clear hx hy F0 hz ho hE hk
  have hol : o.length ≤ 32 := (nums_ok ho0.out).2.1
  have hot : (oidTextS o).length ≤ 1000 := by
    have hall := ho0.out
    simp only [oidOk, Bool.and_eq_true, decide_eq_true_eq] at hall
    have := oidText_len (o := o) (fun n hn => by
      have := List.all_eq_true.1 hall.1.2 n hn
      simp only [arcOk, decide_eq_true_eq] at this
      omega)
    omega
  have hos : (ByteArray.mk (oidTextS o).toArray).size = (oidTextS o).length := by simp [ByteArray.size]
  generalize oidTextS o = ot at *
  go_enter Tryz.func204, Tryz.ntmps204
  go_upto_region 1 with fail
  rw [← HZ.out]
  generalize (w.alloc (.cells #[.slice ax o.length cx, .slice ay b.length cy] 108)) = w0 at *
  have z0 := BZ.cell 0
  simp at z0
  go_wp2_with fail
  refine HT.out.mono ?_
  rintro e w1 ⟨rfl, F1⟩
  have BZ1 := BZ.fr F1 (fun h => h)
  have z1 := BZ1.cell 1
  simp at z1
  have HY1 := Lib.hid (HY.out.old F1)
  have HE1 := Lib.hid (HE.out.old F1)
  have HF1 := Lib.hid (HF0.out.trans F1)
  clear HT HY HE HF0 F1 z0 BZ
  go_wp2_with fail
  refine (words_any _ b w1 HY1.out HE1.out (by omega)).mono ?_
  rintro e w2 ⟨hout, F2⟩
  have BZ2 := BZ1.fr F2 (fun h => h)
  have HY2 := Lib.hid (HY1.out.old F2)
  have HE2 := Lib.hid (HE1.out.old F2)
  have HF2 := Lib.hid (HF1.out.trans F2)
  unfold WordsOut at hout
  clear HY1 HE1 HF1 F2 z1 BZ1
  cases hr : textReadS b with
  | error x =>
    rw [hr] at hout
    subst hout
    have F3 : Fr (fun _ => False) w2 (w2.alloc (.cells #[.int .i64 0, .slice none 0 0] 172)) := (Fr.refl w2).alloc _
    have BZ3 := BZ2.fr F3 (fun h => h)
    have z1 := BZ3.cell 1
    simp only [List.getElem?_toArray, List.getElem?_cons_succ, List.getElem?_cons_zero] at z1
    have HX := Lib.hid (hex_any _ b _ (HY2.out.old F3) (by omega))
    have HF3 := Lib.hid (HF2.out.trans F3)
    have hkk := HK.out
    rw [hr] at hkk
    have HKK := Lib.hid hkk
    have hhl := hexS_len b
    have hhs : (ByteArray.mk (hexS b).toArray).size = (hexS b).length := by simp [ByteArray.size]
    clear hr hkk HY2 HF2 F3 BZ2 BZ3
    generalize hexS b = hb at *
    go_wp2_with fail
    refine HX.out.mono ?_
    rintro e w4 ⟨rfl, F4⟩
    go_wp2_with fail
    go_ret
    refine ⟨congrArg (fun x : ByteArray => Ending.returned (.string x)) ?_, HF3.out.trans F4⟩
    rw [HKK.out, ← List.append_assoc, ← ba_cat, ← ba_cat]
  | ok kbn =>
    obtain ⟨k, t, n⟩ := kbn
    rw [hr] at hout
    obtain ⟨u, rfl, hu⟩ := hout
    obtain ⟨hrt, htl⟩ := textRead_ok hr
    obtain ⟨au, cu, rfl, -⟩ := hu.form
    have F3 : Fr (fun _ => False) w2 (w2.alloc (.cells #[.int .i64 k, .slice au t.length cu] 172)) := (Fr.refl w2).alloc _
    have HX := Lib.hid (foldKey_any k _ t _ (hu.old F3) (HE2.out.old F3).tabs hrt (by omega))
    have HF3 := Lib.hid (HF2.out.trans F3)
    have hkk := HK.out
    rw [hr] at hkk
    simp only at hkk
    have HKK := Lib.hid hkk
    have hfl := foldKey_len k t
    clear hr hkk HY2 HF2 F3 BZ2 hu hrt
    generalize foldKeyS k t = fk at *
    go_upto_region 4 with fail
    have BY := Blk.new w2 172 #[.int .i64 k, .slice au t.length cu]
    obtain ⟨y, hy⟩ : ∃ y, y = w2.heap.size := ⟨_, rfl⟩
    rw [← hy] at BY ⊢
    clear hy
    generalize (w2.alloc (.cells #[.int .i64 k, .slice au t.length cu] 172)) = w3 at *
    have y0 := BY.cell 0
    have y1 := BY.cell 1
    simp only [List.getElem?_toArray, List.getElem?_cons_succ, List.getElem?_cons_zero] at y0 y1
    go_wp2_with fail
    refine HX.out.mono ?_
    rintro e w4 ⟨rfl, F4⟩
    obtain ⟨cp, wc, hcv, hbv, FC, -⟩ := bytes_of_str w4 fk (by omega)
    have HXX := Lib.hid (hex_any _ fk wc hbv (by omega))
    have HF4 := Lib.hid ((HF3.out.trans F4).trans FC)
    have hhl := hexS_len fk
    have hhs : (ByteArray.mk (hexS fk).toArray).size = (hexS fk).length := by simp [ByteArray.size]
    clear HX HF3 F4 hbv FC BY y0 y1
    generalize hexS fk = hb at *
    go_wp2_with fail
    refine HXX.out.mono ?_
    rintro e w5 ⟨rfl, F5⟩
    go_wp2_with fail
    go_ret
    refine ⟨congrArg (fun x : ByteArray => Ending.returned (.string x)) ?_, HF4.out.trans F5⟩
    rw [HKK.out, ← List.append_assoc, ← ba_cat, ← ba_cat]
end Go.Proofs.YthamenngccaijaaGreatDoor

namespace Go.Q
open Go Go.RowKit
def Kept (R : World → Prop) (K : Nat → Prop) (w : World) : Prop := ∀ w', Fr K w w' → R w'
theorem Kept.now {R : World → Prop} {K : Nat → Prop} {w : World} (h : Kept R K w) : R w := h w (Fr.refl w)
theorem Kept.step {R : World → Prop} {K K' S : Nat → Prop} {w w' : World} (h : Kept R K w) (f : Fr S w w') (hS : ∀ k, k < w.heap.size → S k → K k) (hK : ∀ k, K' k → K k ∨ w.heap.size ≤ k) : Kept R K' w' := fun w2 f2 =>
  h w2 ((f.mono hS).trans' f2 (fun i hi e => (hK i e).elim id (fun h => by omega)))
theorem Kept.old {R : World → Prop} {K : Nat → Prop} {w w' : World} (h : Kept R K w) (f : Fr (fun _ => False) w w') : Kept R K w' := h.step f (fun _ _ h => h.elim) (fun _ h => .inl h)
def leastWhole (l : List UInt8) : List UInt8 := wrapS (tagOf (leastK l)) l
def stepS (l : List UInt8) : Option Part :=
  if (cut1 61 l).2.2 = false then none else match fromTextS (cut1 61 l).1 with
    | .error _ => none
    | .ok o => some ⟨o, leastWhole (cut1 61 l).2.1⟩
theorem Attrs.of_block {w : World} {g : Nat} {x y : Value} {p : Part} (B : Blk w g 108 #[x, y]) (hx : Vals w x (intCells p.o)) (hy : Bytes w y p.b) : Attrs w (.slice (some ⟨g, 0, none⟩) 1 1) [p] :=
  ⟨_, 1, rfl, Nat.le_refl _, by unfold maxLen; omega, fun _ => ⟨g, 0, rfl, fun i q hq => by
    match i, hq with
    | 0, hq =>
      simp only [List.getElem?_cons_zero, Option.some.injEq] at hq
      subst hq
      exact ⟨x, y, B.cell 0, B.cell 1, hx, hy⟩
    | i + 1, hq => simp at hq⟩⟩
end Go.Q
namespace Go.Proofs.YthamenngccaijaaGreatDoor
open Go Go.RowKit Go.Q
def StepOut (w w' : World) (l : List UInt8) (e : Ending) : Prop :=
  match stepS l with
  | none => e = .returned (.tuple #[.slice none 0 0, .int .i64 6])
  | some p => ∃ a c, e = .returned (.tuple #[.slice a 1 c, .int .i64 0]) ∧ Kept (fun W => Attrs W (.slice a 1 c) [p]) (fun k => k < w.heap.size) w'
end Go.Proofs.YthamenngccaijaaGreatDoor

namespace Go.Q
open Go Go.RowKit
def NmRow (w : World) (base : Nat) (v : Value) (n : List (List Part)) : Prop :=
  ∃ us : List Value, w.ownsRow base 90 1 v n.length us ∧ us.length = n.length ∧ ∀ (i : Nat) (u : Value) (r : List Part), us[i]? = some u → n[i]? = some r → Kept (fun W => Attrs W u r) (fun k => v.ownBlock = some k) w
theorem NmRow.at {w : World} {base : Nat} {v : Value} {n : List (List Part)} (h : NmRow w base v n) : NameAt w v n := by
  obtain ⟨us, h1, h2, h3⟩ := h
  obtain ⟨a, cap, he, hc, hm, hx⟩ := (Vals.of_own h1).1
  rw [h2] at he hc hx
  refine ⟨a, cap, he, hc, hm, fun h0 => ?_⟩
  obtain ⟨b, o, rfl, hy⟩ := hx h0
  refine ⟨b, o, rfl, fun i r hr => ?_⟩
  have hi : i < us.length := by rw [h2]; exact (List.getElem?_eq_some_iff.1 hr).1
  exact ⟨us[i], hy i _ (List.getElem?_eq_getElem hi), (h3 i _ r (List.getElem?_eq_getElem hi) hr).now⟩
theorem NmRow.old {w w' : World} {base : Nat} {v : Value} {n : List (List Part)} (h : NmRow w base v n) (f : Fr (fun _ => False) w w') : NmRow w' base v n := by
  obtain ⟨us, h1, h2, h3⟩ := h
  exact ⟨us, Go.Proofs.YthamenngccaijaaGreatDoor.ownsRow_fr h1 f (fun _ _ h => h), h2, fun i u r hu hr => (h3 i u r hu hr).old f⟩
theorem NmRow.kept {w : World} {base : Nat} {v : Value} {n : List (List Part)} (h : NmRow w base v n) : ∀ k, v.ownBlock = some k → base ≤ k ∧ k < w.heap.size := by
  obtain ⟨us, h1, -⟩ := h
  exact (Vals.of_own h1).2
theorem NmRow.shape {w : World} {base : Nat} {v : Value} {n : List (List Part)} (h : NmRow w base v n) : ∃ a c, v = .slice a n.length c := by
  obtain ⟨us, h1, -⟩ := h
  obtain ⟨a, m, c, rfl, rfl⟩ := own_shape h1
  exact ⟨a, c, rfl⟩
theorem Attrs.form {w : World} {v : Value} {l : List Part} (h : Attrs w v l) : ∃ a cap, v = .slice a l.length cap := by
  obtain ⟨a, cap, rfl, -⟩ := h
  exact ⟨a, cap, rfl⟩
theorem NmRow.nil (w : World) (base : Nat) : NmRow w base (.slice none 0 0) [] := ⟨[], ⟨rfl, .inl ⟨rfl, rfl⟩⟩, rfl, fun i u r h => by simp at h⟩
def stepsOfS : List (List UInt8) → Option (List (List Part))
  | [] => some []
  | s :: t => match stepS s with
    | none => none
    | some p => (stepsOfS t).map ([p] :: ·)
def nameOfS (l : List (List UInt8)) : Except Int (List (List Part)) :=
  match stepsOfS l with
  | none => .error 6
  | some n => if 64 < n.length then .error 2 else .ok n
end Go.Q
namespace Go.Proofs.YthamenngccaijaaGreatDoor
open Go Go.RowKit Go.Q
theorem info90 : (Tryz.prog.info? 90).map (fun i => (i.zero, i.size, i.bytes)) = some (some (.slice none 0 0), 1, 24) := by kernel_rfl
theorem NmRow.add {w wa : World} {base : Nat} {v : Value} {n : List (List Part)} (h : NmRow w base v n) (hb : base ≤ w.heap.size) (F1 : Fr (fun _ => False) w wa) (g : Nat) (u : Value) (r : List Part) (BX : Blk wa g 90 #[u]) (hu1 : u.oneCell' = true) (hu : Kept (fun W => Attrs W u r) (fun k => v.ownBlock = some k) w) (hn : n.length ≤ 109951162777) :
    ∃ a c w', (Builtin.append_ #[25, 25] 25 #[v, .slice (some ⟨g, 0, none⟩) 1 1]).run Tryz.prog wa = .ok (.slice a (n.length + 1) c) w' ∧ NmRow w' base (.slice a (n.length + 1) c) (n ++ [r]) ∧ Fr (fun k => v.ownBlock = some k) w w' := by
  obtain ⟨us, h1, h2, h3⟩ := h
  obtain ⟨a, c, w', hrun, h4, F2, h5⟩ := add_gen Tryz.underlying25 info90 rfl (by decide) (by decide) h1 hb F1 g [u] rfl BX (by simpa using hu1) hn
  refine ⟨a, c, w', hrun, ⟨us ++ [u], ?_, by simp [h2], fun i x s hx hs => ?_⟩, F2⟩
  · rw [List.length_append]
    exact h4
  · rcases Nat.lt_or_ge i us.length with hi | hi
    · rw [List.getElem?_append_left hi] at hx
      rw [List.getElem?_append_left (by omega)] at hs
      exact (h3 i x s hx hs).step F2 (fun _ _ h => h) h5
    · obtain rfl : i = us.length := by
        have := (List.getElem?_eq_some_iff.1 hx).1
        simp at this
        omega
      rw [List.getElem?_append_right (Nat.le_refl _)] at hx
      rw [List.getElem?_append_right (by omega)] at hs
      simp at hx
      simp [h2] at hs
      subst hx; subst hs
      exact hu.step F2 (fun _ _ h => h) h5
def NameOfOut (w w' : World) (l : List (List UInt8)) (e : Ending) : Prop :=
  match nameOfS l with
  | .error x => e = .returned (.tuple #[.slice none 0 0, .int .i64 x]) ∧ x ≠ 0
  | .ok n => ∃ v, e = .returned (.tuple #[v, .int .i64 0]) ∧ NmRow w' w.heap.size v n
end Go.Proofs.YthamenngccaijaaGreatDoor

namespace Go.Q
open Go Go.RowKit
def cmpI : List Int → List Int → Int
  | [], [] => 0
  | [], _ :: _ => -1
  | _ :: _, [] => 1
  | x :: s, y :: t => if x < y then -1 else if y < x then 1 else cmpI s t
theorem cmpI_zero : ∀ (s t : List Int), cmpI s t = 0 ↔ s = t
  | [], [] => by simp [cmpI]
  | [], _ :: _ => by simp [cmpI]
  | _ :: _, [] => by simp [cmpI]
  | x :: s, y :: t => by
    have ih := cmpI_zero s t
    unfold cmpI
    split
    · simp; intro h; omega
    · split
      · simp; intro h; omega
      · rw [ih]
        simp
        intro _
        omega
def AttrRow (w wr : World) (base : Nat) (v : Value) (l : List Part) : Prop :=
  ∃ cs : List Value, wr.ownsRow base 108 2 v l.length cs ∧ ∀ (i : Nat) (p : Part), l[i]? = some p → ∃ x y, cs[2 * i]? = some x ∧ cs[2 * i + 1]? = some y ∧ Vals w x (intCells p.o) ∧ Bytes w y p.b
theorem AttrRow.at {w wr : World} {base : Nat} {v : Value} {l : List Part} (h : AttrRow w wr base v l) (F : Fr (fun _ => False) w wr) : Attrs wr v l := by
  obtain ⟨cs, ⟨h1, h2⟩, h3⟩ := h
  rcases h2 with ⟨rfl, h0⟩ | ⟨g, cap, cur, rfl, hg, hh, hnc, hcm, hcs, htk⟩
  · exact ⟨none, 0, by rw [h0], by omega, by unfold maxLen; omega, fun h => by omega⟩
  · refine ⟨_, cap, rfl, hnc, hcm, fun _ => ⟨g, 0, rfl, fun i p hp => ?_⟩⟩
    obtain ⟨x, y, e1, e2, e3, e4⟩ := h3 i p hp
    have hi := (List.getElem?_eq_some_iff.1 hp).1
    have gc : ∀ k, k < l.length * 2 → wr.cell? ⟨g, 0 + k, none⟩ = cs[k]? := fun k hk => by
      have := congrArg (fun z : List Value => z[k]?) htk
      simp only [List.getElem?_take, if_pos hk, Array.getElem?_toList] at this
      rw [Nat.zero_add]
      simp only [World.cell?, hh]
      exact this
    refine ⟨x, y, ?_, ?_, e3.old F, e4.old F⟩
    · rw [gc (2 * i) (by omega)]; exact e1
    · rw [Nat.add_assoc, gc (2 * i + 1) (by omega)]; exact e2
end Go.Q
namespace Go.Proofs.YthamenngccaijaaGreatDoor
open Go Go.RowKit Go.Q
theorem info108 : (Tryz.prog.info? 108).map (fun i => (i.zero, i.size, i.bytes)) = some (some (.agg #[.slice none 0 0, .slice none 0 0]), 2, 48) := by kernel_rfl
theorem AttrRow.add {w wr : World} {base : Nat} {v u : Value} {l r : List Part} (h : AttrRow w wr base v l) (hb : base ≤ wr.heap.size) (F : Fr (fun _ => False) w wr) (hr : Attrs w u r) (hr0 : 0 < r.length) (hn : l.length + r.length ≤ 1099511627776) :
    ∃ a c w', (Builtin.append_ #[90, 90] 90 #[v, u]).run Tryz.prog wr = .ok (.slice a (l.length + r.length) c) w' ∧ AttrRow w w' base (.slice a (l.length + r.length) c) (l ++ r) ∧ Fr (fun k => v.ownBlock = some k) wr w' := by
  obtain ⟨cs, h1, h3⟩ := h
  obtain ⟨ar, cr, rfl, hrc, hrm, hx⟩ := hr
  obtain ⟨b, o, rfl, hy⟩ := hx hr0
  have hcell : ∀ i, i < r.length → ∃ p x y, r[i]? = some p ∧ w.cell? ⟨b, o + 2 * i, none⟩ = some x ∧ w.cell? ⟨b, o + 2 * i + 1, none⟩ = some y ∧ Vals w x (intCells p.o) ∧ Bytes w y p.b := fun i hi => by
    obtain ⟨x, y, e⟩ := hy i _ (List.getElem?_eq_getElem hi)
    exact ⟨_, x, y, List.getElem?_eq_getElem hi, e⟩
  have hall : ∀ k, k < r.length * 2 → ∃ x, w.cell? ⟨b, o + k, none⟩ = some x ∧ x.oneCell' = true := fun k hk => by
    obtain ⟨p, x, y, -, e1, e2, e3, e4⟩ := hcell (k / 2) (by omega)
    rcases Nat.mod_two_eq_zero_or_one k with h0 | h0
    · obtain ⟨ax, cx, rfl, -⟩ := Ints.form e3
      exact ⟨_, by rw [show k = 2 * (k / 2) from by omega]; exact e1, rfl⟩
    · obtain ⟨ay, cy, rfl, -⟩ := Vals.form e4
      exact ⟨_, by rw [show k = 2 * (k / 2) + 1 from by omega, ← Nat.add_assoc]; exact e2, rfl⟩
  obtain ⟨news, hnl, hnews⟩ : ∃ news : List Value, news.length = r.length * 2 ∧ ∀ k x, news[k]? = some x → w.cell? ⟨b, o + k, none⟩ = some x ∧ x.oneCell' = true := by
    refine ⟨(List.range (r.length * 2)).map fun k => (w.cell? ⟨b, o + k, none⟩).getD undef, by simp, fun k x hk => ?_⟩
    have hkl : k < r.length * 2 := by
      have := (List.getElem?_eq_some_iff.1 hk).1
      simpa using this
    obtain ⟨y, e1, e2⟩ := hall k hkl
    rw [List.getElem?_map, List.getElem?_range hkl] at hk
    simp only [Option.map_some, Option.some.injEq] at hk
    rw [e1] at hk
    simp only [Option.getD_some] at hk
    subst hk
    exact ⟨e1, e2⟩
  obtain ⟨a, c, w', hrun, h4, F2, -⟩ := append_gen Tryz.underlying90 info108 rfl (by decide) (by decide) h1 hb ⟨b, o, none⟩ r.length cr news hnl (fun k x hk => by
    rw [show (⟨b, o, none⟩ : Addr).add k = ⟨b, o + k, none⟩ from by unfold Addr.add; split <;> simp_all]
    exact F.cell (hnews k x hk).1 (fun h => h)) (fun x hx => by
    obtain ⟨k, hk⟩ := List.mem_iff_getElem?.1 hx
    exact (hnews k x hk).2) hn
  have hcl : cs.length = l.length * 2 := h1.1
  refine ⟨a, c, w', hrun, ⟨cs ++ news, by rw [List.length_append]; exact h4, fun i p hp => ?_⟩, F2⟩
  rcases Nat.lt_or_ge i l.length with hi | hi
  · rw [List.getElem?_append_left hi] at hp
    obtain ⟨x, y, e1, e2, e3⟩ := h3 i p hp
    exact ⟨x, y, by rw [List.getElem?_append_left (by omega)]; exact e1, by rw [List.getElem?_append_left (by omega)]; exact e2, e3⟩
  · rw [List.getElem?_append_right hi] at hp
    have hil := (List.getElem?_eq_some_iff.1 hp).1
    obtain ⟨q, x, y, hq, e1, e2, e3⟩ := hcell (i - l.length) hil
    rw [hp] at hq
    simp only [Option.some.injEq] at hq
    subst hq
    have g1 : news[2 * (i - l.length)]? = some x := by
      have hlt : 2 * (i - l.length) < news.length := by omega
      obtain ⟨z, hz⟩ : ∃ z, news[2 * (i - l.length)]? = some z := ⟨_, List.getElem?_eq_getElem hlt⟩
      have := (hnews _ z hz).1
      rw [e1] at this
      rw [hz, ← this]
    have g2 : news[2 * (i - l.length) + 1]? = some y := by
      have hlt : 2 * (i - l.length) + 1 < news.length := by omega
      obtain ⟨z, hz⟩ : ∃ z, news[2 * (i - l.length) + 1]? = some z := ⟨_, List.getElem?_eq_getElem hlt⟩
      have := (hnews _ z hz).1
      rw [← Nat.add_assoc, e2] at this
      rw [hz, ← this]
    refine ⟨x, y, ?_, ?_, e3⟩
    · rw [List.getElem?_append_right (by omega), show 2 * i - cs.length = 2 * (i - l.length) from by omega]; exact g1
    · rw [List.getElem?_append_right (by omega), show 2 * i + 1 - cs.length = 2 * (i - l.length) + 1 from by omega]; exact g2
end Go.Proofs.YthamenngccaijaaGreatDoor

namespace Go.Q
open Go Go.RowKit
def partKeys (r : List Part) : List (List UInt8) := r.map fun p => attrKeyS p.o p.b
def rdnKeyS (r : List Part) : List UInt8 := Lib.join (Lib.compact (sortS (partKeys r))) [43]
theorem join_len (c : UInt8) (M : Nat) : ∀ ks : List (List UInt8), (∀ k ∈ ks, k.length ≤ M) → (Lib.join ks [c]).length ≤ ks.length * (M + 1)
  | [], _ => by simp [Lib.join]
  | [k], h => by
    have := h k (by simp)
    simp [Lib.join]
    omega
  | k :: l :: t, h => by
    have h1 := h k (by simp)
    have ih := join_len c M (l :: t) (fun x hx => h x (by simp [List.mem_cons.1 hx]))
    have e : Lib.join (k :: l :: t) [c] = k ++ ([c] ++ Lib.join (l :: t) [c]) := by simp [Lib.join, List.intercalate]
    rw [e]
    simp only [List.length_append, List.length_cons, List.length_nil] at ih ⊢
    rw [Nat.add_mul (t.length + 1) 1 (M + 1)]
    omega
theorem compact_mem {zs : List (List UInt8)} {x : List UInt8} (h : x ∈ Lib.compact zs) : x ∈ zs := by
  unfold Lib.compact Lib.compactUpTo at h
  obtain ⟨i, hi, rfl⟩ := List.mem_map.1 h
  have hi2 := List.mem_range.1 (List.mem_filter.1 hi).1
  simp [hi2]
theorem sort_mem {zs : List (List UInt8)} {x : List UInt8} (h : x ∈ sortS zs) : x ∈ zs := by
  unfold sortS at h
  simpa using h
theorem attrKey_len {o : List Int} {b : List UInt8} (ho : oidOk o = true) (hb : b.length ≤ 10000000) : (attrKeyS o b).length ≤ 160001100 := by
  have hol := (Go.Proofs.YthamenngccaijaaGreatDoor.nums_ok ho).2.1
  have h1 := oidText_len (o := o) (fun n hn => by
    simp only [oidOk, Bool.and_eq_true, decide_eq_true_eq] at ho
    have := List.all_eq_true.1 ho.1.2 n hn
    simp only [arcOk, decide_eq_true_eq] at this
    omega)
  unfold attrKeyS
  rw [List.length_append]
  cases hr : textReadS b with
  | error e =>
    simp only [List.length_append, List.length_cons, List.length_nil, hexS_len]
    omega
  | ok kbn =>
    obtain ⟨k, t, n⟩ := kbn
    have h2 := (textRead_ok hr).2
    have h3 := foldKey_len k t
    simp only [List.length_append, List.length_cons, List.length_nil, hexS_len]
    omega
end Go.Q
namespace Go.Proofs.YthamenngccaijaaGreatDoor
open Go Go.RowKit Go.Q
set_option maxRecDepth 20000 in
set_option maxHeartbeats 2000000 in
theorem rdnKey_any (v : Value) (l : List Part) (w : World) (h : Attrs w v l) (hf : fewB l) (ho : ∀ p ∈ l, oidOk p.o = true) (hln : l.length ≤ 100) (hE : Env w) :
    Calls Tryz.prog 160 #[v] w fun e w' => e = .returned (str (rdnKeyS l)) ∧ Fr (fun _ => False) w w' := by
  have H := Lib.hid h
  have HE := Lib.hid hE
  have HO := Lib.hid ho
  obtain ⟨a, cap, rfl, hc, hm, -⟩ := h
  have hkl : ∀ k ∈ Lib.compact (sortS (partKeys l)), k.length ≤ 160001100 := fun k hk => by
    have h1 := sort_mem (compact_mem hk)
    obtain ⟨p, hp, rfl⟩ := List.mem_map.1 h1
    exact attrKey_len (ho p hp) (hf p hp)
  have HKL := Lib.hid hkl
  clear hE ho hkl
  go_enter Tryz.func160, Tryz.ntmps160
  go_wp2_with fail
  go_loopg [3, 8] l.length (fun g u i wr => ∃ (j : Nat) (au : Option Addr) (cu : Nat), g = l.length - j ∧ j ≤ l.length ∧ u = .slice au j cu ∧ i = .int .i64 j ∧ wr.ownsRow w.heap.size 9 1 (.slice au j cu) j ((partKeys (l.take j)).map str) ∧ Fr (fun _ => False) w wr)
  case atStart => exact ⟨0, none, 0, rfl, Nat.zero_le _, rfl, rfl, ⟨rfl, .inl ⟨rfl, rfl⟩⟩, Fr.refl _⟩
  case round =>
    obtain ⟨j, au, cu, hg, hj, rfl, rfl, hown, F⟩ := hrel
    have HG := Lib.hid hg
    have HOW := Lib.hid hown
    have HF := Lib.hid F
    clear hg hown
    by_cases hjl : j < l.length
    · obtain ⟨a0, cap0, he, _, _, hx⟩ := H.out.old F
      simp only [Value.slice.injEq, true_and] at he
      obtain ⟨rfl, rfl⟩ := he
      obtain ⟨b, off, rfl, hy⟩ := hx (by omega)
      obtain ⟨p, hp⟩ : ∃ p, l[j]? = some p := ⟨_, List.getElem?_eq_getElem hjl⟩
      obtain ⟨x, y, e1, e2, hpx, hpy⟩ := hy j p hp
      have hpb := hf p (List.mem_of_getElem? hp)
      have hpo := HO.out p (List.mem_of_getElem? hp)
      have r1 : (0 : Int) ≤ (j : Int) := by omega
      have r2 : (j : Int) < (l.length : Int) := by omega
      obtain ⟨ax, cx, rfl, -⟩ := Ints.form hpx
      obtain ⟨ay, cy, rfl, -⟩ := Vals.form hpy
      have e1' : wr.cell? ⟨b, off + j * 2, none⟩ = some (.slice ax p.o.length cx) := by rw [Nat.mul_comm]; exact e1
      have e2' : wr.cell? ⟨b, off + j * 2 + 1, none⟩ = some (.slice ay p.b.length cy) := by rw [Nat.mul_comm]; exact e2
      have HP := Lib.hid hp
      have HPX := Lib.hid hpx
      have HPY := Lib.hid hpy
      clear hx hy hp F hpx hpy
      go_upto_region 5 with fail
      have BZ := Blk.new wr 108 #[.slice ax p.o.length cx, .slice ay p.b.length cy]
      have F1 : Fr (fun _ => False) wr (wr.alloc (.cells #[.slice ax p.o.length cx, .slice ay p.b.length cy] 108)) := (Fr.refl wr).alloc _
      have HK := Lib.hid (attrKey_any _ _ p.o p.b _ (HPX.out.old F1) (HPY.out.old F1) hpo hpb ((HE.out.old HF.out).old F1))
      have HOW1 := Lib.hid (ownsRow_fr HOW.out F1 (fun _ _ h => h))
      have HF1 := Lib.hid (HF.out.trans F1)
      clear e1 e2 e1' e2' HPX HPY HF F1 HOW
      generalize (wr.alloc (.cells #[.slice ax p.o.length cx, .slice ay p.b.length cy] 108)) = w1 at *
      have z0 := BZ.cell 0
      have z1 := BZ.cell 1
      simp at z0 z1
      have hpk : partKeys (l.take (j + 1)) = partKeys (l.take j) ++ [attrKeyS p.o p.b] := by
        unfold partKeys
        rw [List.take_add_one, HP.out]
        simp
      have HPK := Lib.hid hpk
      clear hpk
      generalize attrKeyS p.o p.b = ky at *
      go_wp2_with fail
      refine HK.out.mono ?_
      rintro e w2 ⟨rfl, F2⟩
      have F3 : Fr (fun _ => False) w2 (w2.alloc (.cells #[str ky] 9)) := (Fr.refl w2).alloc _
      have hs1 := HF1.out.size
      have hs2 := F2.size
      have hbk := (Vals.of_own HOW1.out).2
      obtain ⟨a', c', w4, hrun, hown4, F4, hk4⟩ := add_gen Tryz.underlying68 info9 rfl (by decide) (by decide) (ownsRow_fr HOW1.out F2 (fun _ _ h => h)) (by omega) F3 w2.heap.size [str ky] rfl (Blk.new w2 9 #[str ky]) (by simp [Value.oneCell']) (by omega)
      have HRUN := Lib.hid hrun
      have HOW4 := Lib.hid hown4
      have HF4 := Lib.hid ((HF1.out.trans F2).trans' F4 (fun i hi e => by have := (hbk i e).1; omega))
      clear F2 F3 hrun hown4 F4 hk4 hbk BZ z0 z1 HOW1 HF1
      go_wp2_with (at_builtin; refine wpList_append_run (by rfl) (.tmp 12) (.tmp 15) 68 (by rfl) _ w4 (by exact HRUN.out) ?_)
      go_roundg (l.length - (j + 1))
      case measure => rw [HG.out]; omega
      case rel => exact ⟨j + 1, a', c', rfl, by omega, rfl, by go_num, by rw [HPK.out, List.map_append]; exact HOW4.out, HF4.out⟩
    · obtain rfl : j = l.length := by omega
      have hown := HOW.out
      rw [List.take_length] at hown
      have hpl : (partKeys l).length = l.length := by simp [partKeys]
      have hres : rdnKeyS l = Lib.join (Lib.compact (sortS (partKeys l))) [43] := rfl
      have HRES := Lib.hid hres
      have HS := Lib.hid (strSort_any (partKeys l) (by rw [hpl]; exact hown) (by omega))
      have hsl : (sortS (partKeys l)).length = l.length := by simp [sortS, hpl]
      have hbk := (Vals.of_own hown).2
      have HSL := Lib.hid hsl
      clear hpl hres hown HOW hsl
      generalize partKeys l = pk at *
      go_wp2_with fail
      refine HS.out.mono ?_
      rintro e w2 ⟨rfl, hown2, F2⟩
      have HF2 := Lib.hid (F.trans' F2 (fun i hi e => by have := (hbk i e).1; omega))
      have HC := Lib.hid (strCompact_any (sortS pk) hown2 (by rw [HSL.out]; omega))
      have hbk2 := (Vals.of_own hown2).2
      have hcl := Lib.compact_length_le (sortS pk)
      rw [HSL.out] at hcl
      clear F2 hown2 HS hbk
      generalize sortS pk = sk at *
      go_wp2_with fail
      refine HC.out.mono ?_
      rintro e w3 ⟨⟨v3, rfl, hown3⟩, F3⟩
      have HF3 := Lib.hid (HF2.out.trans' F3 (fun i hi e => by have := (hbk2 i e).1; omega))
      have hv3 := (Vals.of_own hown3).1
      have hjl2 := join_len 43 160001100 (Lib.compact sk) HKL.out
      have HJ := Lib.hid (strJoin_any (Lib.compact sk) 43 v3 w3 hv3 (by omega) (by
        have : (Lib.compact sk).length * (160001100 + 1) ≤ 100 * (160001100 + 1) := Nat.mul_le_mul_right _ (by omega)
        omega))
      obtain ⟨a3, m3, c3, rfl, -⟩ := own_shape hown3
      clear F3 hown3 HC hbk2 hv3 hjl2
      generalize Lib.compact sk = ck at *
      go_wp2_with fail
      refine HJ.out.mono ?_
      rintro e w4 ⟨rfl, F4⟩
      go_wp2_with fail
      go_ret
      exact ⟨by rw [HRES.out]; rfl, HF3.out.trans F4⟩
end Go.Proofs.YthamenngccaijaaGreatDoor

namespace Go.Q
open Go Go.RowKit
def nameKeyS (n : List (List Part)) : List UInt8 := Lib.join (n.map rdnKeyS) [47]
theorem steps_oids : ∀ (l : List Part) (last : Option (List UInt8)), (stepsS last l).isSome = true → ∀ p ∈ l, oidOk p.o = true
  | [], _, _, p, hp => by cases hp
  | q :: t, last, h, p, hp => by
    simp only [stepsS] at h
    cases hq : attrS q.o q.b with
    | none => rw [hq] at h; cases h
    | some x =>
      rw [hq] at h
      have hqo : oidOk q.o = true := by
        unfold attrS at hq
        split at hq
        · rename_i hh; rw [Bool.and_eq_true] at hh; exact hh.1
        · cases hq
      have ht : (stepsS (some x) t).isSome = true := by
        cases last with
        | none => simpa using h
        | some y =>
          by_cases hc : 0 ≤ cmpS y x
          · simp [hc] at h
          · simpa [hc] using h
      rcases List.mem_cons.1 hp with rfl | hm
      · exact hqo
      · exact steps_oids t (some x) ht p hm
theorem rdn_oids {l : List Part} (h : (rdnS l).isSome = true) : l.length ≤ 16 ∧ ∀ p ∈ l, oidOk p.o = true := by
  unfold rdnS at h
  split at h
  · cases h
  · exact ⟨by omega, steps_oids l none h⟩
theorem rdnKey_len {l : List Part} (hf : fewB l) (h : (rdnS l).isSome = true) : (rdnKeyS l).length ≤ 2560017616 := by
  obtain ⟨h1, h2⟩ := rdn_oids h
  have hcl := Lib.compact_length_le (sortS (partKeys l))
  have hsl : (sortS (partKeys l)).length = l.length := by simp [sortS, partKeys]
  rw [hsl] at hcl
  have := join_len 43 160001100 (Lib.compact (sortS (partKeys l))) (fun k hk => by
    have h3 := sort_mem (compact_mem hk)
    obtain ⟨p, hp, rfl⟩ := List.mem_map.1 h3
    exact attrKey_len (h2 p hp) (hf p hp))
  unfold rdnKeyS
  have h4 : (Lib.compact (sortS (partKeys l))).length * (160001100 + 1) ≤ 16 * (160001100 + 1) := Nat.mul_le_mul_right _ (by omega)
  omega
theorem name_rdns {n : List (List Part)} (h : nameOk n = true) : n.length ≤ 64 ∧ ∀ r ∈ n, (rdnS r).isSome = true := by
  unfold nameOk at h
  rw [Bool.and_eq_true] at h
  exact ⟨of_decide_eq_true h.1, fun r hr => List.all_eq_true.1 h.2 r hr⟩
def nameSameS (a b : List (List Part)) : Bool := nameOk a && (nameOk b && decide (nameKeyS a = nameKeyS b))
end Go.Q
namespace Go.Proofs.YthamenngccaijaaGreatDoor
open Go Go.RowKit Go.Q
set_option maxRecDepth 20000 in
set_option maxHeartbeats 2000000 in
theorem nameKey_any (v : Value) (n : List (List Part)) (w : World) (h : NameAt w v n) (hf : ∀ r ∈ n, fewB r) (hok : nameOk n = true) (hE : Env w) :
    Calls Tryz.prog 118 #[v] w fun e w' => e = .returned (.tuple #[str (nameKeyS n), .int .i64 0]) ∧ Fr (fun _ => False) w w' := by
  have H := Lib.hid h
  have HR := right_any v n w h hf
  rw [hok] at HR
  have HRI := Lib.hid HR
  obtain ⟨hn64, hrd⟩ := name_rdns hok
  have HRD := Lib.hid hrd
  have HE := Lib.hid hE
  obtain ⟨a, cap, rfl, hc, hm, -⟩ := h
  have hkl : ∀ k ∈ n.map rdnKeyS, k.length ≤ 2560017616 := fun k hk => by
    obtain ⟨r, hr, rfl⟩ := List.mem_map.1 hk
    exact rdnKey_len (hf r hr) (hrd r hr)
  have hjl := join_len 47 2560017616 (n.map rdnKeyS) hkl
  rw [List.length_map] at hjl
  have hjl2 : n.length * (2560017616 + 1) ≤ 64 * (2560017616 + 1) := Nat.mul_le_mul_right _ hn64
  have hjl3 : (Lib.join (n.map rdnKeyS) [47]).length ≤ 100000000000000 := by omega
  have HJL := Lib.hid hjl3
  clear hE hkl hjl hjl2 hjl3 hok HR hrd
  go_enter Tryz.func118, Tryz.ntmps118
  go_wp2_with fail
  refine HRI.out.mono ?_
  rintro e w0 ⟨rfl, F0⟩
  have HF0 := Lib.hid F0
  clear F0 HRI
  go_wp2_with fail
  go_loopg [4, 12] n.length (fun g u i wr => ∃ (j : Nat) (au : Option Addr) (cu : Nat), g = n.length - j ∧ j ≤ n.length ∧ u = .slice au j cu ∧ i = .int .i64 j ∧ wr.ownsRow w0.heap.size 9 1 (.slice au j cu) j (((n.take j).map rdnKeyS).map str) ∧ Fr (fun _ => False) w0 wr)
  case atStart => exact ⟨0, none, 0, rfl, Nat.zero_le _, rfl, rfl, ⟨rfl, .inl ⟨rfl, rfl⟩⟩, Fr.refl _⟩
  case round =>
    obtain ⟨j, au, cu, hg, hj, rfl, rfl, hown, F⟩ := hrel
    have HG := Lib.hid hg
    have HOW := Lib.hid hown
    have HF := Lib.hid F
    have HFF := Lib.hid (HF0.out.trans F)
    clear hg hown
    by_cases hjl : j < n.length
    · obtain ⟨a0, cap0, he, _, _, hx⟩ := H.out.old HFF.out
      simp only [Value.slice.injEq, true_and] at he
      obtain ⟨rfl, rfl⟩ := he
      obtain ⟨b, off, rfl, hy⟩ := hx (by omega)
      obtain ⟨r, hr⟩ : ∃ r, n[j]? = some r := ⟨_, List.getElem?_eq_getElem hjl⟩
      obtain ⟨x, e1, hA⟩ := hy j r hr
      have hmem := List.mem_of_getElem? hr
      have hri := HRD.out r hmem
      obtain ⟨hr16, hro⟩ := rdn_oids hri
      have HK := Lib.hid (rdnKey_any x r wr hA (hf r hmem) hro (by omega) (HE.out.old HFF.out))
      have hpk : (n.take (j + 1)).map rdnKeyS = (n.take j).map rdnKeyS ++ [rdnKeyS r] := by
        rw [List.take_add_one, hr]
        simp
      have HPK := Lib.hid hpk
      have r1 : (0 : Int) ≤ (j : Int) := by omega
      have r2 : (j : Int) < (n.length : Int) := by omega
      clear hx hy hr hA hmem hri hro F hpk
      generalize rdnKeyS r = ky at *
      go_wp2_with fail
      refine HK.out.mono ?_
      rintro e w2 ⟨rfl, F2⟩
      have F3 : Fr (fun _ => False) w2 (w2.alloc (.cells #[str ky] 9)) := (Fr.refl w2).alloc _
      have hs1 := HF.out.size
      have hs2 := F2.size
      have hbk := (Vals.of_own HOW.out).2
      obtain ⟨a', c', w4, hrun, hown4, F4, hk4⟩ := add_gen Tryz.underlying68 info9 rfl (by decide) (by decide) (ownsRow_fr HOW.out F2 (fun _ _ h => h)) (by omega) F3 w2.heap.size [str ky] rfl (Blk.new w2 9 #[str ky]) (by simp [Value.oneCell']) (by omega)
      have HRUN := Lib.hid hrun
      have HOW4 := Lib.hid hown4
      have HF4 := Lib.hid ((HF.out.trans F2).trans' F4 (fun i hi e => by have := (hbk i e).1; omega))
      clear F2 F3 hrun hown4 F4 hk4 hbk HOW HF HK
      go_wp2_with (at_builtin; refine wpList_append_run (by rfl) (.tmp 16) (.tmp 19) 68 (by rfl) _ w4 (by exact HRUN.out) ?_)
      go_roundg (n.length - (j + 1))
      case measure => rw [HG.out]; omega
      case rel => exact ⟨j + 1, a', c', rfl, by omega, rfl, by go_num, by rw [HPK.out, List.map_append]; exact HOW4.out, HF4.out⟩
    · obtain rfl : j = n.length := by omega
      have hown := HOW.out
      rw [List.take_length] at hown
      have hv3 := (Vals.of_own hown).1
      have HJ := Lib.hid (strJoin_any (n.map rdnKeyS) 47 _ wr hv3 (by rw [List.length_map]; omega) HJL.out)
      have hres : nameKeyS n = Lib.join (n.map rdnKeyS) [47] := rfl
      have HRES := Lib.hid hres
      clear hown hv3 hres HOW
      go_wp2_with fail
      refine HJ.out.mono ?_
      rintro e w4 ⟨rfl, F4⟩
      go_wp2_with fail
      refine bodyPost_ret (v := .tuple #[str (Lib.join (n.map rdnKeyS) [47]), .int .i64 0]) (by simp [results, Tryz.results118, go_sem]) rfl ⟨by rw [HRES.out], HFF.out.trans F4⟩
def keyOut (n : List (List Part)) : Value := if nameOk n = true then .tuple #[str (nameKeyS n), .int .i64 0] else .tuple #[str [], .int .i64 1]
end Go.Proofs.YthamenngccaijaaGreatDoor

namespace Go.Q
open Go Go.RowKit
theorem cmpI_drop {o p : List Int} {j : Nat} {x y : Int} (hx : o[j]? = some x) (hy : p[j]? = some y) : cmpI (o.drop j) (p.drop j) = if x < y then -1 else if y < x then 1 else cmpI (o.drop (j + 1)) (p.drop (j + 1)) := by
  have h1 : o.drop j = x :: o.drop (j + 1) := by
    obtain ⟨h, rfl⟩ := List.getElem?_eq_some_iff.1 hx
    exact List.drop_eq_getElem_cons h
  have h2 : p.drop j = y :: p.drop (j + 1) := by
    obtain ⟨h, rfl⟩ := List.getElem?_eq_some_iff.1 hy
    exact List.drop_eq_getElem_cons h
  rw [h1, h2]
  rfl
def partTextS (ks : List Int) (p : Part) : Option (List UInt8) :=
  if ks ≠ [] ∧ p.o ≠ ks then none else match textReadS p.b with
    | .ok (k, t, _) => some (utf8S k t)
    | .error _ => none
def textsS (n : List (List Part)) (ks : List Int) : List (List UInt8) := if nameOk n = true then n.flatten.filterMap (partTextS ks) else []
end Go.Q
namespace Go.Proofs.YthamenngccaijaaGreatDoor
open Go Go.RowKit Go.Q
end Go.Proofs.YthamenngccaijaaGreatDoor

namespace Go.Proofs.YthamenngccaijaaGreatDoor
open Go Go.RowKit Go.Q
set_option maxRecDepth 20000 in
set_option maxHeartbeats 1000000 in
theorem r04Right_any (v : Value) (o : List Int) (w : World) (h : Ints w v o) :
    Calls Tryz.prog 218 #[v] w fun e w' => e = .returned (.bool (oidOk o)) ∧ w = w' := by
  obtain ⟨a, cap, rfl, hc, hm, hx⟩ := Ints.form h
  have HX := Lib.hid hx
  clear h hx
  rcases Classical.em (2 ≤ o.length ∧ o.length ≤ 32) with hl | hl
  · obtain ⟨hl1, hl2⟩ := hl
    have q1 : decide ((o.length : Int) < 2) = false := decide_eq_false (by omega)
    have q2 : decide ((32 : Int) < (o.length : Int)) = false := decide_eq_false (by omega)
    go_enter Tryz.func218, Tryz.ntmps218
    go_wp2_with fail
    go_loopg [3] o.length (fun g i wr => ∃ j : Nat, g = o.length - j ∧ j ≤ o.length ∧ i = .int .i64 j ∧ (o.take j).all arcOk = true ∧ wr = w)
    case atStart => exact ⟨0, rfl, by omega, rfl, rfl, rfl⟩
    case round =>
      obtain ⟨j, hg, hj, rfl, hall, rfl⟩ := hrel
      have HG := Lib.hid hg
      have HA := Lib.hid hall
      clear hg hall
      obtain ⟨b, off, rfl, hy⟩ := HX.out (by omega)
      by_cases hjl : j < o.length
      · obtain ⟨x, hxj⟩ : ∃ x, o[j]? = some x := ⟨_, List.getElem?_eq_getElem hjl⟩
        have ex := hy j x hxj
        have hat : (o.take (j + 1)).all arcOk = ((o.take j).all arcOk && arcOk x) := by
          rw [List.take_add_one, hxj]
          simp
        have HAT := Lib.hid hat
        have q3 : (0 : Int) ≤ (j : Int) := by omega
        have q4 : (j : Int) < (o.length : Int) := by omega
        have hbad : arcOk x = false → oidOk o = false := fun hb => by
          have : o.all arcOk = false := by
            rw [List.all_eq_false]
            exact ⟨x, List.mem_of_getElem? hxj, by simp [hb]⟩
          simp [oidOk, this]
        have HB := Lib.hid hbad
        clear hy hxj hat hbad
        rcases Classical.em (x < 0) with h0 | h0
        · have q5 : decide (x < 0) = true := decide_eq_true h0
          go_wp2_with fail
          go_ret
          exact ⟨by rw [HB.out (by simp [arcOk]; omega)]; rfl, rfl⟩
        · have q5 : decide (x < 0) = false := decide_eq_false h0
          rcases Classical.em ((2147483647 : Int) < x) with h1 | h1
          · have q6 : decide ((2147483647 : Int) < x) = true := decide_eq_true h1
            go_wp2_with fail
            go_ret
            exact ⟨by rw [HB.out (by simp [arcOk]; omega)]; rfl, rfl⟩
          · have q6 : decide ((2147483647 : Int) < x) = false := decide_eq_false h1
            go_wp2_with fail
            go_roundg (o.length - (j + 1))
            case measure => rw [HG.out]; omega
            case rel => exact ⟨j + 1, rfl, by omega, by go_num, by rw [HAT.out, HA.out]; simp [arcOk]; omega, rfl⟩
      · have hall : o.all arcOk = true := by
          have := HA.out
          rwa [List.take_of_length_le (by omega)] at this
        obtain ⟨x0, hx0⟩ : ∃ x, o[0]? = some x := ⟨_, List.getElem?_eq_getElem (by omega)⟩
        obtain ⟨x1, hx1⟩ : ∃ x, o[1]? = some x := ⟨_, List.getElem?_eq_getElem (by omega)⟩
        have e0 := hy 0 x0 hx0
        have e1 := hy 1 x1 hx1
        have hE : oidOk o = twoOk x0 x1 := by
          simp [oidOk, hall, hl1, hl2, List.getD, hx0, hx1]
        have hp0 : 0 ≤ x0 := by
          have := List.all_eq_true.1 hall x0 (List.mem_of_getElem? hx0)
          simp only [arcOk, decide_eq_true_eq] at this
          exact this.1
        have HE := Lib.hid hE
        have z1 : (1 : Int) < (o.length : Int) := by omega
        have z0 : (0 : Int) < (o.length : Int) := by omega
        simp only [Nat.add_zero] at e0
        clear hy hx0 hx1 hall hE HA HX
        by_cases h2 : x0 < 2
        · by_cases h40 : x1 < 40
          · have hv : twoOk x0 x1 = true := by unfold twoOk; rw [decide_eq_true (show x0 = 0 ∨ x0 = 1 by omega), decide_eq_true h40]; rfl
            have HV := Lib.hid hv
            clear hv
            go_wp2_with fail
            go_ret
            exact ⟨by rw [HE.out, HV.out]; rfl, rfl⟩
          · have hv : twoOk x0 x1 = false := by unfold twoOk; rw [decide_eq_false h40, decide_eq_false (show ¬ x0 = 2 by omega), Bool.and_false]; rfl
            have HV := Lib.hid hv
            have p2 : (x0 == 2) = false := beq_eq_false_iff_ne.2 (by omega)
            clear hv
            go_wp2_with fail
            go_ret
            exact ⟨by rw [HE.out, HV.out]; rfl, rfl⟩
        · by_cases h22 : x0 = 2
          · subst h22
            by_cases hm1 : x1 ≤ 2147483567
            · have hv : twoOk 2 x1 = true := by unfold twoOk; rw [decide_eq_true hm1]; simp
              have HV := Lib.hid hv
              clear hv
              go_wp2_with fail
              go_ret
              exact ⟨by rw [HE.out, HV.out]; rfl, rfl⟩
            · have hv : twoOk 2 x1 = false := by unfold twoOk; rw [decide_eq_false hm1]; simp
              have HV := Lib.hid hv
              clear hv
              go_wp2_with fail
              go_ret
              exact ⟨by rw [HE.out, HV.out]; rfl, rfl⟩
          · have hv : twoOk x0 x1 = false := by unfold twoOk; rw [decide_eq_false h22, decide_eq_false (show ¬ (x0 = 0 ∨ x0 = 1) by omega)]; rfl
            have HV := Lib.hid hv
            have p2 : (x0 == 2) = false := beq_eq_false_iff_ne.2 h22
            clear hv
            go_wp2_with fail
            go_ret
            exact ⟨by rw [HE.out, HV.out]; rfl, rfl⟩
  · have hE : oidOk o = false := by simp [oidOk]; omega
    have HE := Lib.hid hE
    rcases Classical.em (o.length < 2) with h2 | h2
    case' inl => have q1 : decide ((o.length : Int) < 2) = true := decide_eq_true (by omega)
    case' inr =>
      have q1 : decide ((o.length : Int) < 2) = false := decide_eq_false (by omega)
      have q2 : decide ((32 : Int) < (o.length : Int)) = true := decide_eq_true (by omega)
    all_goals
      clear hE
      go_enter Tryz.func218, Tryz.ntmps218
      go_wp2_with fail
      go_ret
      exact ⟨by rw [HE.out]; rfl, rfl⟩
set_option maxRecDepth 20000 in
set_option maxHeartbeats 1000000 in
theorem r04Compare_any (v u : Value) (o p : List Int) (w : World) (h : Ints w v o) (hu : Ints w u p) :
    Calls Tryz.prog 112 #[v, u] w fun e w' => e = .returned (.int .i64 (cmpI o p)) ∧ Fr (fun _ => False) w w' := by
  obtain ⟨a, cap, rfl, hc1, hm1, hx⟩ := Ints.form h
  obtain ⟨b, cbp, rfl, hc2, hm2, hy⟩ := Ints.form hu
  have HX := Lib.hid hx
  have HY := Lib.hid hy
  unfold maxLen at hm1 hm2
  clear h hu hx hy
  go_enter Tryz.func112, Tryz.ntmps112
  go_wp2_with fail
  go_loopg [5] (o.length + p.length) (fun g i wr => ∃ j : Nat, g = o.length + p.length - j ∧ j ≤ o.length ∧ j ≤ p.length ∧ i = .int .i64 j ∧ cmpI o p = cmpI (o.drop j) (p.drop j) ∧ Fr (fun _ => False) w wr)
  case atStart => exact ⟨0, rfl, Nat.zero_le _, Nat.zero_le _, rfl, rfl, Fr.refl _⟩
  case round =>
    obtain ⟨j, hg, hj, hjp, rfl, hE, F⟩ := hrel
    have HG := Lib.hid hg
    have HE := Lib.hid hE
    have HF := Lib.hid F
    clear hg hE
    by_cases hjl : j < o.length
    · obtain ⟨ba, oa, rfl, ha⟩ := HX.out (by omega)
      obtain ⟨x, hxj⟩ : ∃ x, o[j]? = some x := ⟨_, List.getElem?_eq_getElem hjl⟩
      have e1 := F.cell (ha j x hxj) (fun h => h)
      have r1 : (0 : Int) ≤ (j : Int) := by omega
      have r2 : (j : Int) < (o.length : Int) := by omega
      have r5 : decide ((o.length : Int) ≤ (j : Int)) = false := decide_eq_false (by omega)
      have r5N : decide (o.length ≤ j) = false := decide_eq_false (by omega)
      have r5' : decide ((j : Int) < (o.length : Int)) = true := decide_eq_true (by omega)
      have r5'N : decide (j < o.length) = true := decide_eq_true (by omega)
      by_cases hjl2 : j < p.length
      · obtain ⟨bb, ob, rfl, hb⟩ := HY.out (by omega)
        obtain ⟨y, hyj⟩ : ∃ y, p[j]? = some y := ⟨_, List.getElem?_eq_getElem hjl2⟩
        have e2 := F.cell (hb j y hyj) (fun h => h)
        have r4 : (j : Int) < (p.length : Int) := by omega
        have r3 : decide ((p.length : Int) ≤ (j : Int)) = false := decide_eq_false (by omega)
        have r3N : decide (p.length ≤ j) = false := decide_eq_false (by omega)
        have r4' : decide ((j : Int) < (p.length : Int)) = true := decide_eq_true (by omega)
        have r4'N : decide (j < p.length) = true := decide_eq_true (by omega)
        have hcd := Lib.hid (cmpI_drop hxj hyj)
        clear ha hb hxj hyj F
        by_cases h1 : x < y
        · have hres : cmpI o p = -1 := by rw [HE.out, hcd.out, if_pos h1]
          have HRES := Lib.hid hres
          have q1 : decide (x < y) = true := decide_eq_true h1
          clear hres
          go_wp2_with fail
          go_quiet (fail)
          go_wp2_with fail
          go_ret
          refine ⟨by rw [HRES.out]; rfl, ?_⟩; (first | with_reducible exact HF.out | with_reducible exact Fr.drewN HF.out _ | with_reducible exact Fr.drewN (Fr.drewN HF.out _) _ | with_reducible exact Fr.drewN (Fr.drewN (Fr.drewN HF.out _) _) _)
        · have q1 : decide (x < y) = false := decide_eq_false h1
          by_cases h2 : y < x
          · have hres : cmpI o p = 1 := by rw [HE.out, hcd.out, if_neg h1, if_pos h2]
            have HRES := Lib.hid hres
            have q2 : decide (y < x) = true := decide_eq_true h2
            clear hres
            go_wp2_with fail
            go_quiet (fail)
            go_wp2_with fail
            go_quiet (fail)
            go_wp2_with fail
            go_ret
            refine ⟨by rw [HRES.out]; rfl, ?_⟩; (first | with_reducible exact HF.out | with_reducible exact Fr.drewN HF.out _ | with_reducible exact Fr.drewN (Fr.drewN HF.out _) _ | with_reducible exact Fr.drewN (Fr.drewN (Fr.drewN HF.out _) _) _)
          · have hres : cmpI o p = cmpI (o.drop (j + 1)) (p.drop (j + 1)) := by rw [HE.out, hcd.out, if_neg h1, if_neg h2]
            have HRES := Lib.hid hres
            have q2 : decide (y < x) = false := decide_eq_false h2
            clear hres
            go_wp2_with fail
            go_quiet (fail)
            go_wp2_with fail
            go_quiet (fail)
            go_wp2_with fail
            go_roundg (o.length + p.length - (j + 1))
            case measure => rw [HG.out]; omega
            case rel => refine ⟨j + 1, rfl, by omega, by omega, by go_num, HRES.out, ?_⟩; (first | with_reducible exact HF.out | with_reducible exact Fr.drewN HF.out _ | with_reducible exact Fr.drewN (Fr.drewN HF.out _) _ | with_reducible exact Fr.drewN (Fr.drewN (Fr.drewN HF.out _) _) _)
      · have r3 : decide ((p.length : Int) ≤ (j : Int)) = true := decide_eq_true (by omega)
        have r3N : decide (p.length ≤ j) = true := decide_eq_true (by omega)
        have r4 : decide ((j : Int) < (p.length : Int)) = false := decide_eq_false (by omega)
        have r4N : decide (j < p.length) = false := decide_eq_false (by omega)
        have hres : cmpI o p = 1 := by
          have h1 : o.drop j = x :: o.drop (j + 1) := by
            obtain ⟨h, rfl⟩ := List.getElem?_eq_some_iff.1 hxj
            exact List.drop_eq_getElem_cons h
          have h2 : p.drop j = [] := List.drop_eq_nil_of_le (by omega)
          rw [HE.out, h1, h2]
          rfl
        have HRES := Lib.hid hres
        clear hres ha hxj F
        go_wp2_with fail
        go_quiet (fail)
        go_wp2_with fail
        go_quiet (fail)
        go_wp2_with fail
        go_ret
        refine ⟨by rw [HRES.out]; rfl, ?_⟩; (first | with_reducible exact HF.out | with_reducible exact Fr.drewN HF.out _ | with_reducible exact Fr.drewN (Fr.drewN HF.out _) _ | with_reducible exact Fr.drewN (Fr.drewN (Fr.drewN HF.out _) _) _)
    · obtain rfl : j = o.length := by omega
      have h1 : o.drop o.length = [] := List.drop_length
      have r5 : decide ((o.length : Int) ≤ (o.length : Int)) = true := decide_eq_true (by omega)
      have r5N : decide (o.length ≤ o.length) = true := decide_eq_true (by omega)
      by_cases hlt : o.length < p.length
      · have r3 : (o.length : Int) < (p.length : Int) := by omega
        have r3N : decide (o.length < p.length) = true := decide_eq_true hlt
        have hres : cmpI o p = -1 := by
          rw [HE.out, h1]
          have : p.drop o.length ≠ [] := fun e => by have := drop_nil e; omega
          cases hd : p.drop o.length with
          | nil => exact absurd hd this
          | cons y t => rfl
        have HRES := Lib.hid hres
        clear hres h1 F
        go_wp2_with fail
        go_quiet (fail)
        go_wp2_with fail
        go_ret
        refine ⟨by rw [HRES.out]; rfl, ?_⟩; (first | with_reducible exact HF.out | with_reducible exact Fr.drewN HF.out _ | with_reducible exact Fr.drewN (Fr.drewN HF.out _) _ | with_reducible exact Fr.drewN (Fr.drewN (Fr.drewN HF.out _) _) _)
      · have r3 : ¬ (o.length : Int) < (p.length : Int) := by omega
        have r3N : decide (o.length < p.length) = false := decide_eq_false hlt
        have hres : cmpI o p = 0 := by
          have h2 : p.drop o.length = [] := List.drop_eq_nil_of_le (by omega)
          rw [HE.out, h1, h2]
          rfl
        have HRES := Lib.hid hres
        clear hres h1
        go_wp2_with fail
        go_ret
        exact ⟨by rw [HRES.out]; rfl, F⟩
theorem r04Same_any (v u : Value) (o p : List Int) (w : World) (h : Ints w v o) (hu : Ints w u p) :
    Calls Tryz.prog 64 #[v, u] w fun e w' => e = .returned (.bool (decide (o = p))) ∧ Fr (fun _ => False) w w' := by
  have H := Lib.hid (r04Compare_any v u o p w h hu)
  clear h hu
  have hq : (cmpI o p == 0) = decide (o = p) := by
    rw [Bool.eq_iff_iff]
    simp [cmpI_zero]
  have HQ := Lib.hid hq
  clear hq
  generalize cmpI o p = c at *
  go_enter Tryz.func64, Tryz.ntmps64
  go_wp2_with fail
  refine H.out.mono ?_
  rintro e w' ⟨rfl, F⟩
  go_wp2_with fail
  go_ret
  exact ⟨by rw [← HQ.out]; rfl, F⟩
end Go.Proofs.YthamenngccaijaaGreatDoor

namespace Go.Proofs.YthamenngccaijaaGreatDoor
open Go Go.RowKit Go.Q
set_option linter.unusedSimpArgs false
def rWholeOut (w w' : World) (o : List Int) (b : List UInt8) (e : Ending) : Prop :=
  match attrS o b with
  | none => e = .returned (.tuple #[.slice none 0 0, .bool false])
  | some x => ∃ v, e = .returned (.tuple #[v, .bool true]) ∧ w'.ownsRow w.heap.size 5 1 v x.length (Lib.byteCells x)
set_option maxRecDepth 20000 in
set_option maxHeartbeats 2000000 in
theorem r14Whole_any (x y : Value) (o : List Int) (b : List UInt8) (w : World) (hx : Ints w x o) (hy : Bytes w y b) (hl : b.length ≤ 10000000) :
    Calls Tryz.prog 168 #[.agg #[x, y]] w fun e w' => rWholeOut w w' o b e ∧ Fr (fun _ => False) w w' := by
  obtain ⟨ax, cx, rfl, -⟩ := Ints.form hx
  obtain ⟨ay, cy, rfl, -⟩ := Vals.form hy
  obtain ⟨z, hz⟩ : ∃ z, z = w.heap.size := ⟨_, rfl⟩
  have BZ := Blk.new w 107 #[.slice ax o.length cx, .slice ay b.length cy]
  have F0 : Fr (fun _ => False) w (w.alloc (.cells #[.slice ax o.length cx, .slice ay b.length cy] 107)) := (Fr.refl w).alloc _
  have HX := Lib.hid (hx.old F0)
  have HY := Lib.hid (hy.old F0)
  rw [← hz] at BZ
  have HF0 := Lib.hid F0
  have HZ := Lib.hid hz
  clear hx hy F0 hz
  go_enter Tryz.func168, Tryz.ntmps168
  go_upto_region 1 with fail
  rw [← HZ.out]
  generalize (w.alloc (.cells #[.slice ax o.length cx, .slice ay b.length cy] 107)) = w0 at *
  have z1 := BZ.cell 1
  simp only [List.getElem?_toArray, List.getElem?_cons_succ, List.getElem?_cons_zero] at z1
  go_wp2_with fail
  refine (r08Wholes_any _ b w0 HY.out (by omega)).mono ?_
  rintro e w1 ⟨hout, F1⟩
  have BZ1 := BZ.fr F1 (fun h => h)
  have HF1 := Lib.hid (HF0.out.trans F1)
  have HX1 := Lib.hid (HX.out.old F1)
  have HY1 := Lib.hid (HY.out.old F1)
  unfold wholesOut at hout
  clear HX HY HF0 F1 BZ z1
  cases hr : allS b with
  | error x =>
    rw [hr] at hout
    subst hout
    have hx0 : x ≠ 0 := allS_pos hr
    have hx1 : (x == 0) = false := beq_eq_false_iff_ne.2 hx0
    have hx2 : (x != 0) = true := by simpa using hx0
    have hn : attrS o b = none := by unfold attrS singleB; rw [hr, Bool.and_false]; rfl
    have HN := Lib.hid hn
    clear hn hr hx0
    go_wp2_with fail
    refine bodyPost_ret (v := .tuple #[.slice none 0 0, .bool false]) (by simp [results, Tryz.results168, go_sem]) rfl ⟨?_, HF1.out⟩
    unfold rWholeOut
    rw [HN.out]
  | ok ls =>
    rw [hr] at hout
    obtain ⟨al, cl, rfl⟩ := hout
    by_cases h1 : ls.length = 1
    · have hs : singleB b = true := by unfold singleB; rw [hr]; simp [h1]
      have q1 : ((ls.length : Int) == 1) = true := by rw [h1]; rfl
      have q2 : ((ls.length : Int) != 1) = false := by rw [h1]; rfl
      have q3 : (ls.length == 1) = true := by rw [h1]; rfl
      have q4 : (ls.length != 1) = false := by rw [h1]; rfl
      have HRI := Lib.hid (r04Right_any _ o w1 HX1.out)
      have z0 := BZ1.cell 0
      simp only [List.getElem?_toArray, List.getElem?_cons_succ, List.getElem?_cons_zero] at z0
      clear hr h1
      cases ho : oidOk o with
      | false =>
        rw [ho] at HRI
        have hn : attrS o b = none := by unfold attrS; rw [ho]; rfl
        have HN := Lib.hid hn
        clear hn ho
        go_wp2_with fail
        refine HRI.out.mono ?_
        rintro e w2 ⟨rfl, rfl⟩
        go_wp2_with fail
        refine bodyPost_ret (v := .tuple #[.slice none 0 0, .bool false]) (by simp [results, Tryz.results168, go_sem]) rfl ⟨?_, HF1.out⟩
        unfold rWholeOut
        rw [HN.out]
      | true =>
        rw [ho] at HRI
        have hn : attrS o b = some (wrapS (tagOf 16) (oidWhole o ++ b)) := by unfold attrS; rw [ho, hs]; rfl
        have HN := Lib.hid hn
        have hol := oidWhole_len (nums_ok ho).2.1
        have HO := Lib.hid ho
        clear hn ho hs
        go_wp2_with fail
        refine HRI.out.mono ?_
        rintro e w2 ⟨rfl, rfl⟩
        clear z0 HRI q1 q2 q3 q4
        go_upto_region 4 with fail
        have G : Fr (fun _ => False) w1 w1.drew := (Fr.refl w1).drew
        have B := BZ1.drew
        have hB1 := BZ1.lt
        obtain ⟨T, hT⟩ : ∃ T, T = tagOf 16 := ⟨_, rfl⟩
        have HTG := Lib.hid (show tagGood T from by rw [hT]; exact good_of (n := 16) (by decide) (by decide))
        have HOF := Lib.hid (fun w => r02Of_any 16 w)
        have HWH := Lib.hid (fun (W : World) (hW : Ints W (.slice ax o.length cx) o) => r04Whole_any (.slice ax o.length cx) o W hW HO.out)
        rw [← hT] at HN HOF
        generalize oidWhole o = ow at *
        clear hT
        have GS : w.heap.size ≤ w1.heap.size := HF1.out.size
        go_region_held3 (fun w' => ∀ j, w'.cell? ⟨z, j, none⟩ = (#[.slice ax o.length cx, .slice ay b.length cy] : Array Value)[j]?) (first | exact B.cell) (first
          | (go_at_call 51; refine (HOF.out _).mono ?_; rintro e w' ⟨rfl, F⟩; replace B := B.fr F (fun h => h); replace G := G.trans F; (try replace hv := ownsRow_fr hv F (fun _ _ h => h)))
          | (go_at_call 219; refine (HWH.out _ (HX1.out.old G)).mono ?_; rintro e w' ⟨v, rfl, hv0, F⟩; have hv := own_le hv0 (show w1.heap.size ≤ _ from G.size); obtain ⟨av, mv, cv, rfl, rfl⟩ := own_shape hv; replace B := B.fr F (fun h => h); replace G := G.trans F)
          | (obtain ⟨v7, w7, hrun, ho7, F7, hat⟩ := append_bytes hv ay b.length cy b (HY1.out.old G) (by omega) (show w1.heap.size ≤ _ from G.size); obtain ⟨a7, m7, c7, rfl, rfl⟩ := own_shape ho7; refine step_append_run (by rfl) (.tmp 28) (.tmp 30) 23 (by rfl) _ w7 (by exact hrun) ?_; have hbk := (Vals.of_own hv).2; replace B := B.fr F7 (fun e => by have := (hbk z e).1; omega); replace G := G.trans' F7 (fun i hi e => absurd hi (by have := (hbk i e).1; omega)); have hs7 : w1.heap.size ≤ w7.heap.size := G.size; have hml : (ow ++ b).length ≤ 16777216 := (by rw [List.length_append]; omega); clear hv hrun F7 hat)
          | (go_at_call 50; refine (r02Wrap_any T HTG.out (.slice a7 (ow.length + b.length) c7) (ow ++ b) _ (Vals.of_own ho7).1 hml).mono ?_; rintro e w' ⟨v, rfl, hv9, F⟩; obtain ⟨av, mv, cv, rfl, rfl⟩ := own_shape hv9; replace B := B.fr F (fun h => h); replace G := G.trans F))
        all_goals
          have HO9 := Lib.hid (own_le hv9 (show w.heap.size ≤ w7.heap.size from by omega))
          have HG9 := Lib.hid (HF1.out.trans G)
          clear hv9 ho7 B G F hbk hml
          generalize wrapS T (ow ++ b) = wx at *
          go_wp2_with fail
          refine bodyPost_ret (v := .tuple #[.slice av wx.length cv, .bool true]) (by simp [results, Tryz.results168, go_sem]) rfl ⟨?_, HG9.out⟩
          unfold rWholeOut
          rw [HN.out]
          exact ⟨_, rfl, HO9.out⟩
    · have hs : singleB b = false := by unfold singleB; rw [hr]; simp [h1]
      have q1 : ((ls.length : Int) == 1) = false := beq_eq_false_iff_ne.2 (by omega)
      have q2 : ((ls.length : Int) != 1) = true := by simpa using (by omega : (ls.length : Int) ≠ 1)
      have q3 : (ls.length == 1) = false := beq_eq_false_iff_ne.2 (by omega)
      have q4 : (ls.length != 1) = true := by simpa using h1
      have hn : attrS o b = none := by unfold attrS; rw [hs, Bool.and_false]; rfl
      have HN := Lib.hid hn
      clear hn hr hs h1
      go_wp2_with fail
      refine bodyPost_ret (v := .tuple #[.slice none 0 0, .bool false]) (by simp [results, Tryz.results168, go_sem]) rfl ⟨?_, HF1.out⟩
      unfold rWholeOut
      rw [HN.out]
end Go.Proofs.YthamenngccaijaaGreatDoor

namespace Go.Q
open Go Go.RowKit
theorem cmpS_drop {a b : List UInt8} {j : Nat} {x y : UInt8} (hx : a[j]? = some x) (hy : b[j]? = some y) : cmpS (a.drop j) (b.drop j) = if x.toNat < y.toNat then -1 else if y.toNat < x.toNat then 1 else cmpS (a.drop (j + 1)) (b.drop (j + 1)) := by
  have h1 : a.drop j = x :: a.drop (j + 1) := by
    obtain ⟨h, rfl⟩ := List.getElem?_eq_some_iff.1 hx
    exact List.drop_eq_getElem_cons h
  have h2 : b.drop j = y :: b.drop (j + 1) := by
    obtain ⟨h, rfl⟩ := List.getElem?_eq_some_iff.1 hy
    exact List.drop_eq_getElem_cons h
  rw [h1, h2]
  simp only [cmpS]
  by_cases h : x = y
  · subst h; simp
  · rw [if_neg h]
    by_cases h3 : x.toNat < y.toNat
    · rw [if_pos h3, if_pos h3]
    · rw [if_neg h3, if_neg h3, if_pos]
      rcases Nat.lt_or_ge y.toNat x.toNat with h4 | h4
      · exact h4
      · exact absurd (UInt8.toNat_inj.1 (by omega)) h
theorem cmpS_zero : ∀ (s t : List UInt8), cmpS s t = 0 ↔ s = t
  | [], [] => by simp [cmpS]
  | [], _ :: _ => by simp [cmpS]
  | _ :: _, [] => by simp [cmpS]
  | x :: s, y :: t => by
    have ih := cmpS_zero s t
    unfold cmpS
    split
    · rename_i h; subst h; rw [ih]; simp
    · rename_i h
      split <;> simp [h]
end Go.Q
namespace Go.Proofs.YthamenngccaijaaGreatDoor
open Go Go.RowKit Go.Q
set_option maxRecDepth 20000 in
set_option maxHeartbeats 1000000 in
theorem r01Compare_any (v u : Value) (o p : List UInt8) (w : World) (h : Bytes w v o) (hu : Bytes w u p) :
    Calls Tryz.prog 65 #[v, u] w fun e w' => e = .returned (.int .i64 (cmpS o p)) ∧ Fr (fun _ => False) w w' := by
  obtain ⟨a, cap, rfl, hc1, hm1, hx⟩ := Vals.form h
  obtain ⟨b, cbp, rfl, hc2, hm2, hy⟩ := Vals.form hu
  have HX := Lib.hid hx
  have HY := Lib.hid hy
  unfold maxLen at hm1 hm2
  clear h hu hx hy
  go_enter Tryz.func65, Tryz.ntmps65
  go_wp2_with fail
  go_loopg [5] (o.length + p.length) (fun g i wr => ∃ j : Nat, g = o.length + p.length - j ∧ j ≤ o.length ∧ j ≤ p.length ∧ i = .int .i64 j ∧ cmpS o p = cmpS (o.drop j) (p.drop j) ∧ Fr (fun _ => False) w wr)
  case atStart => exact ⟨0, rfl, Nat.zero_le _, Nat.zero_le _, rfl, rfl, Fr.refl _⟩
  case round =>
    obtain ⟨j, hg, hj, hjp, rfl, hE, F⟩ := hrel
    have HG := Lib.hid hg
    have HE := Lib.hid hE
    have HF := Lib.hid F
    clear hg hE
    by_cases hjl : j < o.length
    · obtain ⟨ba, oa, rfl, ha⟩ := HX.out (by omega)
      obtain ⟨x, hxj⟩ : ∃ x, o[j]? = some x := ⟨_, List.getElem?_eq_getElem hjl⟩
      have e1 := F.cell (ha j x hxj) (fun h => h)
      have r1 : (0 : Int) ≤ (j : Int) := by omega
      have r2 : (j : Int) < (o.length : Int) := by omega
      have r5 : decide ((o.length : Int) ≤ (j : Int)) = false := decide_eq_false (by omega)
      have r5N : decide (o.length ≤ j) = false := decide_eq_false (by omega)
      have r5' : decide ((j : Int) < (o.length : Int)) = true := decide_eq_true (by omega)
      have r5'N : decide (j < o.length) = true := decide_eq_true (by omega)
      by_cases hjl2 : j < p.length
      · obtain ⟨bb, ob, rfl, hb⟩ := HY.out (by omega)
        obtain ⟨y, hyj⟩ : ∃ y, p[j]? = some y := ⟨_, List.getElem?_eq_getElem hjl2⟩
        have e2 := F.cell (hb j y hyj) (fun h => h)
        have r4 : (j : Int) < (p.length : Int) := by omega
        have r3 : decide ((p.length : Int) ≤ (j : Int)) = false := decide_eq_false (by omega)
        have r3N : decide (p.length ≤ j) = false := decide_eq_false (by omega)
        have r4' : decide ((j : Int) < (p.length : Int)) = true := decide_eq_true (by omega)
        have r4'N : decide (j < p.length) = true := decide_eq_true (by omega)
        have hcd := Lib.hid (cmpS_drop hxj hyj)
        clear ha hb hxj hyj F
        generalize x.toNat = x at *
        generalize y.toNat = y at *
        by_cases h1 : x < y
        · have hres : cmpS o p = -1 := by rw [HE.out, hcd.out, if_pos h1]
          have HRES := Lib.hid hres
          have q1 : decide ((x : Int) < (y : Int)) = true := decide_eq_true (by omega)
          have q1N : decide (x < y) = true := decide_eq_true h1
          clear hres
          go_wp2_with fail
          go_quiet (fail)
          go_wp2_with fail
          go_ret
          refine ⟨by rw [HRES.out]; rfl, ?_⟩; (first | with_reducible exact HF.out | with_reducible exact Fr.drewN HF.out _ | with_reducible exact Fr.drewN (Fr.drewN HF.out _) _ | with_reducible exact Fr.drewN (Fr.drewN (Fr.drewN HF.out _) _) _)
        · have q1 : decide ((x : Int) < (y : Int)) = false := decide_eq_false (by omega)
          have q1N : decide (x < y) = false := decide_eq_false h1
          by_cases h2 : y < x
          · have hres : cmpS o p = 1 := by rw [HE.out, hcd.out, if_neg h1, if_pos h2]
            have HRES := Lib.hid hres
            have q2 : decide ((y : Int) < (x : Int)) = true := decide_eq_true (by omega)
            have q2N : decide (y < x) = true := decide_eq_true h2
            clear hres
            go_wp2_with fail
            go_quiet (fail)
            go_wp2_with fail
            go_quiet (fail)
            go_wp2_with fail
            go_ret
            refine ⟨by rw [HRES.out]; rfl, ?_⟩; (first | with_reducible exact HF.out | with_reducible exact Fr.drewN HF.out _ | with_reducible exact Fr.drewN (Fr.drewN HF.out _) _ | with_reducible exact Fr.drewN (Fr.drewN (Fr.drewN HF.out _) _) _)
          · have hres : cmpS o p = cmpS (o.drop (j + 1)) (p.drop (j + 1)) := by rw [HE.out, hcd.out, if_neg h1, if_neg h2]
            have HRES := Lib.hid hres
            have q2 : decide ((y : Int) < (x : Int)) = false := decide_eq_false (by omega)
            have q2N : decide (y < x) = false := decide_eq_false h2
            clear hres
            go_wp2_with fail
            go_quiet (fail)
            go_wp2_with fail
            go_quiet (fail)
            go_wp2_with fail
            go_roundg (o.length + p.length - (j + 1))
            case measure => rw [HG.out]; omega
            case rel => refine ⟨j + 1, rfl, by omega, by omega, by go_num, HRES.out, ?_⟩; (first | with_reducible exact HF.out | with_reducible exact Fr.drewN HF.out _ | with_reducible exact Fr.drewN (Fr.drewN HF.out _) _ | with_reducible exact Fr.drewN (Fr.drewN (Fr.drewN HF.out _) _) _)
      · have r3 : decide ((p.length : Int) ≤ (j : Int)) = true := decide_eq_true (by omega)
        have r3N : decide (p.length ≤ j) = true := decide_eq_true (by omega)
        have r4 : decide ((j : Int) < (p.length : Int)) = false := decide_eq_false (by omega)
        have r4N : decide (j < p.length) = false := decide_eq_false (by omega)
        have hres : cmpS o p = 1 := by
          have h1 : o.drop j = x :: o.drop (j + 1) := by
            obtain ⟨h, rfl⟩ := List.getElem?_eq_some_iff.1 hxj
            exact List.drop_eq_getElem_cons h
          have h2 : p.drop j = [] := List.drop_eq_nil_of_le (by omega)
          rw [HE.out, h1, h2]
          rfl
        have HRES := Lib.hid hres
        clear hres ha hxj F
        go_wp2_with fail
        go_quiet (fail)
        go_wp2_with fail
        go_quiet (fail)
        go_wp2_with fail
        go_ret
        refine ⟨by rw [HRES.out]; rfl, ?_⟩; (first | with_reducible exact HF.out | with_reducible exact Fr.drewN HF.out _ | with_reducible exact Fr.drewN (Fr.drewN HF.out _) _ | with_reducible exact Fr.drewN (Fr.drewN (Fr.drewN HF.out _) _) _)
    · obtain rfl : j = o.length := by omega
      have h1 : o.drop o.length = [] := List.drop_length
      have r5 : decide ((o.length : Int) ≤ (o.length : Int)) = true := decide_eq_true (by omega)
      have r5N : decide (o.length ≤ o.length) = true := decide_eq_true (by omega)
      by_cases hlt : o.length < p.length
      · have r3 : (o.length : Int) < (p.length : Int) := by omega
        have r3N : decide (o.length < p.length) = true := decide_eq_true hlt
        have hres : cmpS o p = -1 := by
          rw [HE.out, h1]
          have : p.drop o.length ≠ [] := fun e => by have := drop_nil e; omega
          cases hd : p.drop o.length with
          | nil => exact absurd hd this
          | cons y t => rfl
        have HRES := Lib.hid hres
        clear hres h1 F
        go_wp2_with fail
        go_quiet (fail)
        go_wp2_with fail
        go_ret
        refine ⟨by rw [HRES.out]; rfl, ?_⟩; (first | with_reducible exact HF.out | with_reducible exact Fr.drewN HF.out _ | with_reducible exact Fr.drewN (Fr.drewN HF.out _) _ | with_reducible exact Fr.drewN (Fr.drewN (Fr.drewN HF.out _) _) _)
      · have r3 : ¬ (o.length : Int) < (p.length : Int) := by omega
        have r3N : decide (o.length < p.length) = false := decide_eq_false hlt
        have hres : cmpS o p = 0 := by
          have h2 : p.drop o.length = [] := List.drop_eq_nil_of_le (by omega)
          rw [HE.out, h1, h2]
          rfl
        have HRES := Lib.hid hres
        clear hres h1
        go_wp2_with fail
        go_ret
        exact ⟨by rw [HRES.out]; rfl, F⟩
theorem r01Same_any (v u : Value) (o p : List UInt8) (w : World) (h : Bytes w v o) (hu : Bytes w u p) :
    Calls Tryz.prog 15 #[v, u] w fun e w' => e = .returned (.bool (decide (o = p))) ∧ Fr (fun _ => False) w w' := by
  have H := Lib.hid (r01Compare_any v u o p w h hu)
  clear h hu
  have hq : (cmpS o p == 0) = decide (o = p) := by
    rw [Bool.eq_iff_iff]
    simp [cmpS_zero]
  have HQ := Lib.hid hq
  clear hq
  generalize cmpS o p = c at *
  go_enter Tryz.func15, Tryz.ntmps15
  go_wp2_with fail
  refine H.out.mono ?_
  rintro e w' ⟨rfl, F⟩
  go_wp2_with fail
  go_ret
  exact ⟨by rw [← HQ.out]; rfl, F⟩
end Go.Proofs.YthamenngccaijaaGreatDoor

namespace Go.Proofs.YthamenngccaijaaGreatDoor
open Go Go.RowKit Go.Q
set_option linter.unusedSimpArgs false
set_option maxRecDepth 20000 in
set_option maxHeartbeats 2000000 in
theorem r14Step_any (v : Value) (l : List Part) (w : World) (h : Attrs w v l) (hf : fewB l) :
    Calls Tryz.prog 131 #[v] w fun e w' => e = .returned (.bool (rdnS l).isSome) ∧ Fr (fun _ => False) w w' := by
  have H := Lib.hid h
  obtain ⟨a, cap, rfl, hc, hm, -⟩ := h
  rcases Classical.em (l.length = 0 ∨ 16 < l.length) with hl | hl
  · have hn : rdnS l = none := by unfold rdnS; rw [if_pos hl]
    have HN := Lib.hid hn
    clear hn
    rcases hl with hl | hl
    · have q1 : (l.length : Int) < 1 := by omega
      go_enter Tryz.func131, Tryz.ntmps131
      go_wp2_with fail
      go_ret
      exact ⟨by rw [HN.out]; rfl, Fr.refl _⟩
    · have q1 : ¬ (l.length : Int) < 1 := by omega
      have q3 : (16 : Int) < (l.length : Int) := by omega
      go_enter Tryz.func131, Tryz.ntmps131
      go_wp2_with fail
      go_ret
      exact ⟨by rw [HN.out]; rfl, Fr.refl _⟩
  · have hn : rdnS l = stepsS none l := by unfold rdnS; rw [if_neg hl]
    have HN := Lib.hid hn
    have q1 : ¬ (l.length : Int) < 1 := by omega
    have q3 : ¬ (16 : Int) < (l.length : Int) := by omega
    clear hn
    go_enter Tryz.func131, Tryz.ntmps131
    go_wp2_with fail
    go_loopg [3, 4] l.length (fun g u i wr => ∃ (j : Nat) (ws : List (List UInt8)), g = l.length - j ∧ j ≤ l.length ∧ i = .int .i64 j ∧ ws.length = j ∧ (∀ y, ws.getLast? = some y → Bytes wr u y) ∧ Fr (fun _ => False) w wr ∧ (stepsS none l = (stepsS ws.getLast? (l.drop j)).map (ws ++ ·)))
    case atStart => first | exact ⟨0, [], rfl, Nat.zero_le _, rfl, rfl, fun y e => by simp at e, Fr.refl _, by simp⟩ | exact ⟨0, [], rfl, Nat.zero_le _, rfl, fun y e => by simp at e, Fr.refl _, by simp⟩
    case round =>
      obtain ⟨j, ws, hg, hj, rfl, hws, hwl, F, hS⟩ := hrel
      have HG := Lib.hid hg
      have HS := Lib.hid hS
      have HF := Lib.hid F
      have HWS := Lib.hid hws
      have HWL := Lib.hid hwl
      clear hg hS hws hwl
      by_cases hjl : j < l.length
      · obtain ⟨a0, cap0, he, _, _, hx⟩ := H.out.old F
        simp only [Value.slice.injEq, true_and] at he
        obtain ⟨rfl, rfl⟩ := he
        obtain ⟨b, off, rfl, hy⟩ := hx (by omega)
        obtain ⟨p, hp⟩ : ∃ p, l[j]? = some p := ⟨_, List.getElem?_eq_getElem hjl⟩
        obtain ⟨x, y, e1, e2, hpx, hpy⟩ := hy j p hp
        have hsp := Lib.hid (stepsS_split l j p hp ws.getLast?)
        have hpb := hf p (List.mem_of_getElem? hp)
        have r1 : (0 : Int) ≤ (j : Int) := by omega
        have r2 : (j : Int) < (l.length : Int) := by omega
        obtain ⟨ax, cx, rfl, -⟩ := Ints.form hpx
        obtain ⟨ay, cy, rfl, -⟩ := Vals.form hpy
        have HW := Lib.hid (r14Whole_any _ _ p.o p.b wr hpx hpy hpb)
        have e1' : wr.cell? ⟨b, off + j * 2, none⟩ = some (.slice ax p.o.length cx) := by rw [Nat.mul_comm]; exact e1
        have e2' : wr.cell? ⟨b, off + j * 2 + 1, none⟩ = some (.slice ay p.b.length cy) := by rw [Nat.mul_comm]; exact e2
        clear hx hy hp hpx hpy F e1 e2
        go_wp2_with fail
        refine HW.out.mono ?_
        rintro e w2 ⟨hout, F2⟩
        have HF2 := Lib.hid (HF.out.trans F2)
        have HWL2 := Lib.hid (fun y h => (HWL.out y h).old F2)
        unfold rWholeOut at hout
        clear e1' e2' HF F2 HW HWL
        cases hq : attrS p.o p.b with
        | none =>
          rw [hq] at hout
          subst hout
          have hn : rdnS l = none := by rw [HN.out, HS.out, hsp.out, hq]; rfl
          have HNN := Lib.hid hn
          clear hn hq
          go_wp2_with fail
          go_ret
          exact ⟨by rw [HNN.out]; rfl, HF2.out⟩
        | some x =>
          rw [hq] at hout
          obtain ⟨v2, rfl, ho2⟩ := hout
          have hb2 := (Vals.of_own ho2).1
          have HB2 := Lib.hid hb2
          obtain ⟨a2, c2, rfl, -⟩ := hb2.form
          have hsp1 := hsp.out
          rw [hq] at hsp1
          have HSP := Lib.hid hsp1
          have hlen : (ws ++ [x]).length = j + 1 := by simp [HWS.out]
          have HLEN := Lib.hid hlen
          clear hb2 ho2 hsp hsp1 hq hlen
          by_cases hj0 : j = 0
          · subst hj0
            have hw0 : ws = [] := List.length_eq_zero_iff.1 HWS.out
            have hnx := steps_next HS.out HSP.out (by rw [hw0]; rfl)
            have HNX := Lib.hid hnx
            clear hnx hw0
            go_wp2_with fail
            go_roundg (l.length - (0 + 1))
            case measure => rw [HG.out]; omega
            case rel => exact ⟨0 + 1, ws ++ [x], rfl, by omega, by go_num, HLEN.out, fun y e => by rw [List.getLast?_concat] at e; cases e; exact HB2.out, HF2.out, HNX.out⟩
          · obtain ⟨k, rfl⟩ : ∃ k, j = k + 1 := ⟨j - 1, by omega⟩
            have hws2 := HWS.out
            obtain ⟨xk, hxk⟩ : ∃ x, ws[k]? = some x := ⟨_, List.getElem?_eq_getElem (by omega)⟩
            have hlast : ws.getLast? = some xk := by rw [List.getLast?_eq_getElem?, hws2]; exact hxk
            have hbk := HWL2.out xk hlast
            have hsp2 := HSP.out
            rw [hlast] at hsp2
            have t2 : (0 : Int) < ((k + 1 : Nat) : Int) := by omega
            have HCM := Lib.hid (r01Compare_any _ _ xk x w2 hbk HB2.out)
            obtain ⟨cm, hcm⟩ : ∃ cm, cm = cmpS xk x := ⟨_, rfl⟩
            have HCC := Lib.hid hcm
            rw [← hcm] at HCM
            have HLA := Lib.hid hlast
            clear hsp2 hxk hlast hcm hbk
            by_cases hge : 0 ≤ cm
            · have hn : rdnS l = none := by
                rw [HN.out, HS.out, HSP.out, HLA.out]
                simp [← HCC.out, hge]
              have HNN := Lib.hid hn
              clear hn
              go_wp2_with fail
              refine HCM.out.mono ?_
              rintro e w3 ⟨rfl, F3⟩
              go_wp2_with fail
              go_ret
              exact ⟨by rw [HNN.out]; rfl, HF2.out.trans F3⟩
            · have hcond : (match ws.getLast? with | some y => decide (0 ≤ cmpS y x) | none => false) = false := by
                rw [HLA.out]
                simp only [← HCC.out]
                exact decide_eq_false hge
              have HNX := Lib.hid (steps_next HS.out HSP.out hcond)
              clear hcond
              go_wp2_with fail
              refine HCM.out.mono ?_
              rintro e w3 ⟨rfl, F3⟩
              go_wp2_with fail
              go_roundg (l.length - (k + 1 + 1))
              case measure => rw [HG.out]; omega
              case rel => exact ⟨k + 1 + 1, ws ++ [x], rfl, by omega, by go_num, HLEN.out, fun y e => by rw [List.getLast?_concat] at e; cases e; exact HB2.out.old F3, HF2.out.trans F3, HNX.out⟩
      · have hd : l.drop j = [] := List.drop_eq_nil_of_le (by omega)
        have hres : rdnS l = some ws := by rw [HN.out, HS.out, hd]; simp [stepsS]
        have HRES := Lib.hid hres
        clear hd hres
        go_wp2_with fail
        go_ret
        exact ⟨by rw [HRES.out]; rfl, F⟩
set_option maxRecDepth 20000 in
set_option maxHeartbeats 2000000 in
theorem r14Right_any (v : Value) (n : List (List Part)) (w : World) (h : NameAt w v n) (hf : ∀ r ∈ n, fewB r) :
    Calls Tryz.prog 84 #[v] w fun e w' => e = .returned (.bool (nameOk n)) ∧ Fr (fun _ => False) w w' := by
  have H := Lib.hid h
  obtain ⟨a, cap, rfl, hc, hm, -⟩ := h
  have hcm : cap ≤ 9223372036854775807 := by unfold maxLen at hm; omega
  have hn : nameOk n = (decide (n.length ≤ 64) && n.all (fun r => (rdnS r).isSome)) := rfl
  have HN := Lib.hid hn
  clear hn
  go_enter Tryz.func84, Tryz.ntmps84
  go_wp2_with fail
  go_loopg [3] n.length (fun g i wr => ∃ j : Nat, g = n.length - j ∧ j ≤ n.length ∧ i = .int .i64 j ∧ (∀ r ∈ n.take j, (rdnS r).isSome = true) ∧ Fr (fun _ => False) w wr)
  case atStart => exact ⟨0, rfl, Nat.zero_le _, rfl, by simp, Fr.refl _⟩
  case round =>
    obtain ⟨j, hg, hj, rfl, he, F⟩ := hrel
    have HG := Lib.hid hg
    have HE := Lib.hid he
    have HF := Lib.hid F
    clear hg he
    by_cases hjl : j < n.length
    · obtain ⟨a0, cap0, he, _, _, hx⟩ := H.out.old F
      simp only [Value.slice.injEq, true_and] at he
      obtain ⟨rfl, rfl⟩ := he
      obtain ⟨b, off, rfl, hy⟩ := hx (by omega)
      obtain ⟨r, hr⟩ : ∃ r, n[j]? = some r := ⟨_, List.getElem?_eq_getElem hjl⟩
      obtain ⟨x, e1, hA⟩ := hy j r hr
      have r1 : (0 : Int) ≤ (j : Int) := by omega
      have r2 : (j : Int) < (n.length : Int) := by omega
      have HW := Lib.hid (r14Step_any x r wr hA (hf r (List.mem_of_getElem? hr)))
      have HR := Lib.hid hr
      clear hx hy hr hA F
      obtain ⟨o, ho⟩ : ∃ o, o = (rdnS r).isSome := ⟨_, rfl⟩
      have HO := Lib.hid ho
      rw [← ho] at HW
      clear ho
      go_wp2_with fail
      refine HW.out.mono ?_
      rintro e w2 ⟨rfl, F2⟩
      have G2 := HF.out.trans F2
      clear HF F2
      cases o with
      | false =>
        have hn : n.all (fun r => (rdnS r).isSome) = false := by
          rw [List.all_eq_false]
          exact ⟨r, List.mem_of_getElem? HR.out, by rw [← HO.out]; simp⟩
        have HNN := Lib.hid hn
        clear hn
        go_wp2_with fail
        go_ret
        exact ⟨by rw [HN.out, HNN.out, Bool.and_false]; rfl, G2⟩
      | true =>
        go_wp2_with fail
        go_roundg (n.length - (j + 1))
        case measure => rw [HG.out]; omega
        case rel =>
          refine ⟨j + 1, rfl, by omega, by go_num, fun s hs => ?_, G2⟩
          rw [List.take_add_one, HR.out] at hs
          rcases List.mem_append.1 hs with h | h
          · exact HE.out s h
          · simp at h
            rw [h, ← HO.out]
    · have hall : n.all (fun r => (rdnS r).isSome) = true := by
        rw [List.all_eq_true]
        have := HE.out
        rwa [List.take_of_length_le (by omega)] at this
      have HNN := Lib.hid hall
      clear hall
      by_cases h64 : n.length ≤ 64
      · have q1 : ¬ (64 : Int) < (n.length : Int) := by omega
        have q2 : (n.length : Int) ≤ 64 := by omega
        have HD := Lib.hid (decide_eq_true h64)
        clear h64
        go_wp2_with fail
        go_ret
        exact ⟨by rw [HN.out, HNN.out, HD.out]; rfl, F⟩
      · have q1 : (64 : Int) < (n.length : Int) := by omega
        have q2 : ¬ (n.length : Int) ≤ 64 := by omega
        have HD := Lib.hid (decide_eq_false h64)
        clear h64
        go_wp2_with fail
        go_ret
        exact ⟨by rw [HN.out, HNN.out, HD.out]; rfl, F⟩
end Go.Proofs.YthamenngccaijaaGreatDoor

namespace Go.Q
open Go Go.RowKit
def ARow (t : TypeId) (w wr : World) (base : Nat) (v : Value) (l : List Part) : Prop :=
  ∃ cs : List Value, wr.ownsRow base t 2 v l.length cs ∧ ∀ (i : Nat) (p : Part), l[i]? = some p → ∃ x y, cs[2 * i]? = some x ∧ cs[2 * i + 1]? = some y ∧ Vals w x (intCells p.o) ∧ Bytes w y p.b
theorem ARow.at {t : TypeId} {w wr : World} {base : Nat} {v : Value} {l : List Part} (h : ARow t w wr base v l) (F : Fr (fun _ => False) w wr) : Attrs wr v l := by
  obtain ⟨cs, ⟨h1, h2⟩, h3⟩ := h
  rcases h2 with ⟨rfl, h0⟩ | ⟨g, cap, cur, rfl, hg, hh, hnc, hcm, hcs, htk⟩
  · exact ⟨none, 0, by rw [h0], by omega, by unfold maxLen; omega, fun h => by omega⟩
  · refine ⟨_, cap, rfl, hnc, hcm, fun _ => ⟨g, 0, rfl, fun i p hp => ?_⟩⟩
    obtain ⟨x, y, e1, e2, e3, e4⟩ := h3 i p hp
    have hi := (List.getElem?_eq_some_iff.1 hp).1
    have gc : ∀ k, k < l.length * 2 → wr.cell? ⟨g, 0 + k, none⟩ = cs[k]? := fun k hk => by
      have := congrArg (fun z : List Value => z[k]?) htk
      simp only [List.getElem?_take, if_pos hk, Array.getElem?_toList] at this
      rw [Nat.zero_add]
      simp only [World.cell?, hh]
      exact this
    refine ⟨x, y, ?_, ?_, e3.old F, e4.old F⟩
    · rw [gc (2 * i) (by omega)]; exact e1
    · rw [Nat.add_assoc, gc (2 * i + 1) (by omega)]; exact e2
theorem ARow.nil (t : TypeId) (w wr : World) (base : Nat) : ARow t w wr base (.slice none 0 0) [] := ⟨[], ⟨rfl, .inl ⟨rfl, rfl⟩⟩, fun i p hp => by simp at hp⟩
theorem ARow.shape {t : TypeId} {w wr : World} {base : Nat} {v : Value} {l : List Part} (h : ARow t w wr base v l) : ∃ a c, v = .slice a l.length c := by
  obtain ⟨us, h1, -⟩ := h
  obtain ⟨a, m, c, rfl, rfl⟩ := own_shape h1
  exact ⟨a, c, rfl⟩
theorem ARow.keep {t : TypeId} {w wr : World} {base : Nat} {v : Value} {l : List Part} (h : ARow t w wr base v l) : ∀ k, v.ownBlock = some k → base ≤ k ∧ k < wr.heap.size := fun k hk => by
  obtain ⟨us, h1, -⟩ := h
  exact h1.lt k hk
theorem ARow.fr {t : TypeId} {S : Nat → Prop} {w wr w' : World} {base : Nat} {v : Value} {l : List Part} (h : ARow t w wr base v l) (f : Fr S wr w') (hS : ∀ k, v.ownBlock = some k → ¬ S k) : ARow t w w' base v l := by
  obtain ⟨us, h1, h2⟩ := h
  exact ⟨us, Go.Proofs.YthamenngccaijaaGreatDoor.ownsRow_fr h1 f hS, h2⟩
theorem ARow.kept {t : TypeId} {w wr : World} {base : Nat} {v : Value} {l : List Part} (h : ARow t w wr base v l) (F : Fr (fun _ => False) w wr) (K : Nat → Prop) (hK : ∀ k, K k → w.heap.size ≤ k ∧ k < base) : Kept (fun W => Attrs W v l) K wr := fun W f =>
  (h.fr f (fun k hk h1 => by have := (h.keep k hk).1; have := (hK k h1).2; omega)).at (F.trans' f (fun i hi h1 => by have := (hK i h1).1; omega))
theorem ARow.add {P : Program} {t s : TypeId} (hu0 : P.underlying s = some (.slice t)) (hinf : Info P t (.agg #[.slice none 0 0, .slice none 0 0]) 2 48) {w wr wa : World} {base : Nat} {v x y : Value} {l : List Part} (h : ARow t w wr base v l) (hb : base ≤ wr.heap.size) (F1 : Fr (fun _ => False) wr wa) (g : Nat) (BX : Blk wa g t #[x, y]) (p : Part) (hx : Ints w x p.o) (hy : Bytes w y p.b) (hn : l.length ≤ 109951162777) :
    ∃ a c w', (Builtin.append_ #[s, s] s #[v, .slice (some ⟨g, 0, none⟩) 1 1]).run P wa = .ok (.slice a (l.length + 1) c) w' ∧ ARow t w w' base (.slice a (l.length + 1) c) (l ++ [p]) ∧ Fr (fun k => v.ownBlock = some k) wr w' := by
  obtain ⟨cs, h1, h2⟩ := h
  have hcl : cs.length = l.length * 2 := h1.1
  obtain ⟨ax, cx, rfl, -⟩ := Ints.form hx
  obtain ⟨ay, cy, rfl, -⟩ := Vals.form hy
  obtain ⟨a, c, w', hrun, h4, F2, h5⟩ := add_gen hu0 hinf rfl (by decide) (by decide) h1 hb F1 g [.slice ax p.o.length cx, .slice ay p.b.length cy] rfl BX (by intro u hu; simp at hu; rcases hu with rfl | rfl <;> rfl) hn
  refine ⟨a, c, w', hrun, ⟨cs ++ [.slice ax p.o.length cx, .slice ay p.b.length cy], by rw [List.length_append]; exact h4, fun i q hq => ?_⟩, F2⟩
  rcases Nat.lt_or_ge i l.length with hi | hi
  · rw [List.getElem?_append_left hi] at hq
    obtain ⟨x, y, e1, e2, e3⟩ := h2 i q hq
    exact ⟨x, y, by rw [List.getElem?_append_left (by omega)]; exact e1, by rw [List.getElem?_append_left (by omega)]; exact e2, e3⟩
  · obtain rfl : i = l.length := by
      have := (List.getElem?_eq_some_iff.1 hq).1
      simp at this
      omega
    rw [List.getElem?_append_right (Nat.le_refl _)] at hq
    simp at hq
    subst hq
    refine ⟨_, _, ?_, ?_, hx, hy⟩
    · rw [List.getElem?_append_right (by omega), show 2 * l.length - cs.length = 0 from by omega]; rfl
    · rw [List.getElem?_append_right (by omega), show 2 * l.length + 1 - cs.length = 1 from by omega]; rfl
def NRow (t : TypeId) (w : World) (base : Nat) (v : Value) (n : List (List Part)) : Prop :=
  ∃ us : List Value, w.ownsRow base t 1 v n.length us ∧ us.length = n.length ∧ ∀ (i : Nat) (u : Value) (r : List Part), us[i]? = some u → n[i]? = some r → Kept (fun W => Attrs W u r) (fun k => v.ownBlock = some k) w
theorem NRow.at {t : TypeId} {w : World} {base : Nat} {v : Value} {n : List (List Part)} (h : NRow t w base v n) : NameAt w v n := by
  obtain ⟨us, h1, h2, h3⟩ := h
  obtain ⟨a, cap, he, hc, hm, hx⟩ := (Vals.of_own h1).1
  rw [h2] at he hc hx
  refine ⟨a, cap, he, hc, hm, fun h0 => ?_⟩
  obtain ⟨b, o, rfl, hy⟩ := hx h0
  refine ⟨b, o, rfl, fun i r hr => ?_⟩
  have hi : i < us.length := by rw [h2]; exact (List.getElem?_eq_some_iff.1 hr).1
  exact ⟨us[i], hy i _ (List.getElem?_eq_getElem hi), (h3 i _ r (List.getElem?_eq_getElem hi) hr).now⟩
theorem NRow.old {t : TypeId} {w w' : World} {base : Nat} {v : Value} {n : List (List Part)} (h : NRow t w base v n) (f : Fr (fun _ => False) w w') : NRow t w' base v n := by
  obtain ⟨us, h1, h2, h3⟩ := h
  exact ⟨us, Go.Proofs.YthamenngccaijaaGreatDoor.ownsRow_fr h1 f (fun _ _ h => h), h2, fun i u r hu hr => (h3 i u r hu hr).old f⟩
theorem NRow.keep {t : TypeId} {w : World} {base : Nat} {v : Value} {n : List (List Part)} (h : NRow t w base v n) : ∀ k, v.ownBlock = some k → base ≤ k ∧ k < w.heap.size := by
  obtain ⟨us, h1, -⟩ := h
  exact (Vals.of_own h1).2
theorem NRow.shape {t : TypeId} {w : World} {base : Nat} {v : Value} {n : List (List Part)} (h : NRow t w base v n) : ∃ a c, v = .slice a n.length c := by
  obtain ⟨us, h1, -⟩ := h
  obtain ⟨a, m, c, rfl, rfl⟩ := own_shape h1
  exact ⟨a, c, rfl⟩
theorem NRow.nil (t : TypeId) (w : World) (base : Nat) : NRow t w base (.slice none 0 0) [] := ⟨[], ⟨rfl, .inl ⟨rfl, rfl⟩⟩, rfl, fun i u r h => by simp at h⟩
theorem NRow.add {P : Program} {t s : TypeId} (hu0 : P.underlying s = some (.slice t)) (hinf : Info P t (.slice none 0 0) 1 24) {w wa : World} {base : Nat} {v : Value} {n : List (List Part)} (h : NRow t w base v n) (hb : base ≤ w.heap.size) (F1 : Fr (fun _ => False) w wa) (g : Nat) (u : Value) (r : List Part) (BX : Blk wa g t #[u]) (hu1 : u.oneCell' = true) (hu : Kept (fun W => Attrs W u r) (fun k => v.ownBlock = some k) w) (hn : n.length ≤ 109951162777) :
    ∃ a c w', (Builtin.append_ #[s, s] s #[v, .slice (some ⟨g, 0, none⟩) 1 1]).run P wa = .ok (.slice a (n.length + 1) c) w' ∧ NRow t w' base (.slice a (n.length + 1) c) (n ++ [r]) ∧ Fr (fun k => v.ownBlock = some k) w w' := by
  obtain ⟨us, h1, h2, h3⟩ := h
  obtain ⟨a, c, w', hrun, h4, F2, h5⟩ := add_gen hu0 hinf rfl (by decide) (by decide) h1 hb F1 g [u] rfl BX (by simpa using hu1) hn
  refine ⟨a, c, w', hrun, ⟨us ++ [u], ?_, by simp [h2], fun i x s hx hs => ?_⟩, F2⟩
  · rw [List.length_append]
    exact h4
  · rcases Nat.lt_or_ge i us.length with hi | hi
    · rw [List.getElem?_append_left hi] at hx
      rw [List.getElem?_append_left (by omega)] at hs
      exact (h3 i x s hx hs).step F2 (fun _ _ h => h) h5
    · obtain rfl : i = us.length := by
        have := (List.getElem?_eq_some_iff.1 hx).1
        simp at this
        omega
      rw [List.getElem?_append_right (Nat.le_refl _)] at hx
      rw [List.getElem?_append_right (by omega)] at hs
      simp at hx
      simp [h2] at hs
      subst hx; subst hs
      exact hu.step F2 (fun _ _ h => h) h5
end Go.Q

namespace Go.Q
open Go Go.RowKit
section
variable {P : Program}
theorem append_none {w : World} {base n : Nat} {t e : TypeId} {v : Value} {xs : List Value} {z : Value} {size bytes : Nat} (hu : P.underlying t = some (.slice e)) (hinf : Info P e z size bytes) (hown : w.ownsRow base e size v n xs) (c : Nat) :
    (Builtin.append_ #[t, t] t #[v, .slice none 0 c]).run P w = .ok v w := by
  obtain ⟨i0, hi0, hz0, hz1, hz2⟩ := info_parts hinf
  rcases hown.2 with ⟨rfl, rfl⟩ | ⟨g, cap, cur, rfl, _, _, hnc, _⟩
  · simp [Builtin.append_, run_underlying hu, sizeOf, typeInfo, hi0, Builtin.lenOf, Builtin.firstCells]
  · simp [Builtin.append_, run_underlying hu, sizeOf, typeInfo, hi0, Builtin.lenOf, Builtin.firstCells, hnc, storeCells]
theorem append_vals {w : World} {base n : Nat} {t e : TypeId} {v y : Value} {xs news : List Value} {z : Value} {bytes : Nat} (hu : P.underlying t = some (.slice e)) (hinf : Info P e z 1 bytes) (hzs : z.cells.size = 1) (hby : bytes ≤ 64)
    (hown : w.ownsRow base e 1 v n xs) (hb : base ≤ w.heap.size) (hy : Vals w y news) (h1 : ∀ u ∈ news, u.oneCell' = true) (hsz : n + news.length ≤ 1099511627776) :
    ∃ a' c' w', (Builtin.append_ #[t, t] t #[v, y]).run P w = .ok (.slice a' (n + news.length) c') w' ∧ w'.ownsRow base e 1 (.slice a' (n + news.length) c') (n + news.length) (xs ++ news) ∧ Fr (fun k => v.ownBlock = some k) w w' ∧ (∀ k, (Value.slice a' (n + news.length) c').ownBlock = some k → v.ownBlock = some k ∨ w.heap.size ≤ k) := by
  obtain ⟨a, cap, rfl, hc, hm, hx⟩ := hy
  cases a with
  | none =>
    have h0 : news = [] := by
      cases news with
      | nil => rfl
      | cons u s => obtain ⟨b, o, e, -⟩ := hx (by simp); cases e
    subst h0
    obtain ⟨av, m, cv, rfl, rfl⟩ := own_shape hown
    exact ⟨av, cv, w, append_none hu hinf hown cap, by simpa using hown, Fr.refl _, fun k hk => .inl hk⟩
  | some ad =>
    refine append_gen hu hinf hzs (by decide) hby hown hb ad news.length cap news (by omega) (fun j u hj => ?_) h1 hsz
    have hj2 := (List.getElem?_eq_some_iff.1 hj).1
    obtain ⟨b, o, e, hy⟩ := hx (by omega)
    simp only [Option.some.injEq] at e
    subst e
    rw [show (⟨b, o, none⟩ : Addr).add j = ⟨b, o + j, none⟩ from by unfold Addr.add; split <;> simp_all]
    exact hy j u hj
end
end Go.Q
namespace Go.Proofs.YthamenngccaijaaGreatDoor
open Go Go.RowKit Go.Q
set_option linter.unusedSimpArgs false
set_option maxRecDepth 20000 in
set_option maxHeartbeats 1000000 in
theorem cloneByte_any (v : Value) (o : List UInt8) (w : World) (h : Bytes w v o) (hl : o.length ≤ 100000000000) :
    Calls Tryz.prog 88 #[v] w fun e w' => (∃ u, e = .returned u ∧ w'.ownsRow w.heap.size 5 1 u o.length (Lib.byteCells o)) ∧ Fr (fun _ => False) w w' := by
  obtain ⟨a, cap, rfl, -⟩ := Vals.form h
  have qT : ∀ (w : World) (a : Option Addr) (n c n' c' : Nat), (binOp .eql 23 (.slice a n c) (.slice none n' c')).run Tryz.prog w = .ok (.bool a.isNone) w := fun w a n c n' c' => Lib.run_eql_slice_nil w _ _ a n c n' c' Tryz.underlying23
  cases a with
  | none =>
    have h0 : o = [] := by
      obtain ⟨a0, c0, he, _, _, hx⟩ := Vals.form h
      cases o with
      | nil => rfl
      | cons u s =>
        obtain ⟨b, o, e, -⟩ := hx (by simp)
        simp only [Value.slice.injEq] at he
        rw [e] at he
        cases he.1
    subst h0
    clear h
    go_enter Tryz.func88, Tryz.ntmps88
    go_wp2_with fail
    go_ret
    exact ⟨⟨_, rfl, rfl, .inl ⟨rfl, rfl⟩⟩, Fr.refl _⟩
  | some ad =>
    have B0 := Blk.new w 5 #[]
    have F0 : Fr (fun _ => False) w (w.alloc (.cells #[] 5)) := (Fr.refl w).alloc _
    have hl2 : (Lib.byteCells o).length = o.length := byteCells_len o
    obtain ⟨a', c', w', hrun, hown, F1, -⟩ := append_vals Tryz.underlying23 info5 rfl (by decide) (own_block B0 0 (Nat.le_refl _) (Nat.zero_le _) w.heap.size (Nat.le_refl _)) F0.size (h.old F0) (byteCells_one o) (by rw [hl2]; omega)
    rw [hl2, Nat.zero_add] at hrun hown
    have HF := Lib.hid (F0.trans' F1 (fun i hi e => by simp [Value.ownBlock] at e; omega))
    have HRUN := Lib.hid hrun
    have HOW := Lib.hid hown
    clear hrun hown F1 B0 F0 h hl2
    go_enter Tryz.func88, Tryz.ntmps88
    go_wp2_with (at_builtin; refine wpList_append_run (by rfl) (.tmp 5) (.tmp 6) 23 (by rfl) _ w' (by exact HRUN.out) ?_)
    go_ret
    exact ⟨⟨_, rfl, HOW.out⟩, HF.out⟩
end Go.Proofs.YthamenngccaijaaGreatDoor

namespace Go.Q
open Go Go.RowKit
def LAt {α : Type} (sz : Nat) (R : World → List Value → α → Prop) (w : World) (v : Value) (l : List α) : Prop :=
  ∃ a cap, v = .slice a l.length cap ∧ l.length ≤ cap ∧ cap ≤ maxLen ∧ (0 < l.length → ∃ b o, a = some ⟨b, o, none⟩ ∧ ∀ i x, l[i]? = some x → ∃ cs, cs.length = sz ∧ (∀ j u, cs[j]? = some u → w.cell? ⟨b, o + sz * i + j, none⟩ = some u) ∧ R w cs x)
def GRow {α : Type} (sz : Nat) (R : World → List Value → α → Prop) (K : Nat → Prop) (t : TypeId) (w : World) (base : Nat) (v : Value) (l : List α) : Prop :=
  ∃ cs : List Value, w.ownsRow base t sz v l.length cs ∧ ∀ i x, l[i]? = some x → ∃ us, us.length = sz ∧ (∀ j u, us[j]? = some u → cs[sz * i + j]? = some u) ∧ Kept (fun W => R W us x) (fun k => v.ownBlock = some k ∨ K k) w
section
variable {α : Type} {sz : Nat} {R : World → List Value → α → Prop} {K : Nat → Prop} {t : TypeId} {w : World} {base : Nat} {v : Value} {l : List α}
theorem LAt.old (hR : ∀ w w' cs x, R w cs x → Fr (fun _ => False) w w' → R w' cs x) {w' : World} (h : LAt sz R w v l) (f : Fr (fun _ => False) w w') : LAt sz R w' v l := by
  obtain ⟨a, cap, rfl, h1, h2, h3⟩ := h
  refine ⟨a, cap, rfl, h1, h2, fun h0 => ?_⟩
  obtain ⟨b, o, rfl, hy⟩ := h3 h0
  refine ⟨b, o, rfl, fun i p hp => ?_⟩
  obtain ⟨cs, e1, e2, e3⟩ := hy i p hp
  exact ⟨cs, e1, fun j u hu => f.cell (e2 j u hu) (fun h => h), hR _ _ _ _ e3 f⟩
theorem GRow.nil (sz : Nat) (R : World → List Value → α → Prop) (K : Nat → Prop) (t : TypeId) (w : World) (base : Nat) : GRow sz R K t w base (.slice none 0 0) [] := ⟨[], ⟨by simp, .inl ⟨rfl, rfl⟩⟩, fun i p hp => by simp at hp⟩
theorem GRow.keep (h : GRow sz R K t w base v l) : ∀ k, v.ownBlock = some k → base ≤ k ∧ k < w.heap.size := fun k hk => by
  obtain ⟨us, h1, -⟩ := h
  exact h1.lt k hk
theorem GRow.shape (h : GRow sz R K t w base v l) : ∃ a c, v = .slice a l.length c := by
  obtain ⟨us, h1, -⟩ := h
  obtain ⟨a, m, c, rfl, rfl⟩ := own_shape h1
  exact ⟨a, c, rfl⟩
theorem GRow.at (h : GRow sz R K t w base v l) (_hs : 0 < sz) : LAt sz R w v l := by
  obtain ⟨cs, ⟨h1, h2⟩, h3⟩ := h
  rcases h2 with ⟨rfl, h0⟩ | ⟨g, cap, cur, rfl, hg, hh, hnc, hcm, hcs, htk⟩
  · exact ⟨none, 0, by rw [h0], by omega, by unfold maxLen; omega, fun h => by omega⟩
  · refine ⟨_, cap, rfl, hnc, hcm, fun _ => ⟨g, 0, rfl, fun i p hp => ?_⟩⟩
    obtain ⟨us, e1, e2, e3⟩ := h3 i p hp
    refine ⟨us, e1, fun j u hu => ?_, e3.now⟩
    have hi := (List.getElem?_eq_some_iff.1 hp).1
    have hc := e2 j u hu
    have hj := (List.getElem?_eq_some_iff.1 hc).1
    have := congrArg (fun z : List Value => z[sz * i + j]?) htk
    simp only [List.getElem?_take, if_pos (show sz * i + j < l.length * sz by omega), Array.getElem?_toList] at this
    rw [Nat.zero_add]
    simp only [World.cell?, hh]
    exact this.trans hc
theorem GRow.fr {S : Nat → Prop} {w' : World} (h : GRow sz R K t w base v l) (f : Fr S w w') (hS : ∀ k, k < w.heap.size → S k → K k) (hv : ∀ k, v.ownBlock = some k → ¬ S k) : GRow sz R K t w' base v l := by
  obtain ⟨cs, h1, h2⟩ := h
  refine ⟨cs, Go.Proofs.YthamenngccaijaaGreatDoor.ownsRow_fr h1 f hv, fun i p hp => ?_⟩
  obtain ⟨us, e1, e2, e3⟩ := h2 i p hp
  exact ⟨us, e1, e2, e3.step f (fun k hk hs => .inr (hS k hk hs)) (fun k hk => .inl hk)⟩
theorem GRow.old {w' : World} (h : GRow sz R K t w base v l) (f : Fr (fun _ => False) w w') : GRow sz R K t w' base v l := h.fr f (fun _ _ h => h.elim) (fun _ _ h => h)
theorem GRow.kept (h : GRow sz R K t w base v l) (hs : 0 < sz) (K' : Nat → Prop) (hK : ∀ k, K' k → K k ∧ k < base) : Kept (fun W => LAt sz R W v l) K' w := fun W f =>
  (h.fr f (fun k _ hk => (hK k hk).1) (fun k hk hs => by have := (h.keep k hk).1; have := (hK k hs).2; omega)).at hs
theorem GRow.add {P : Program} {s : TypeId} {z : Value} {bytes : Nat} (hu0 : P.underlying s = some (.slice t)) (hinf : Info P t z sz bytes) (hzs : z.cells.size = sz) (hs0 : 0 < sz) (hby : bytes ≤ 64) {wa : World} (h : GRow sz R K t w base v l) (hb : base ≤ w.heap.size) (F1 : Fr (fun _ => False) w wa) (g : Nat) (us : List Value) (hus : us.length = sz) (BX : Blk wa g t us.toArray) (h1 : ∀ u ∈ us, u.oneCell' = true) (x : α) (hk : Kept (fun W => R W us x) (fun k => v.ownBlock = some k ∨ K k) w) (hn : l.length ≤ 109951162777) :
    ∃ a c w', (Builtin.append_ #[s, s] s #[v, .slice (some ⟨g, 0, none⟩) 1 1]).run P wa = .ok (.slice a (l.length + 1) c) w' ∧ GRow sz R K t w' base (.slice a (l.length + 1) c) (l ++ [x]) ∧ Fr (fun k => v.ownBlock = some k) w w' ∧ (∀ k, (Value.slice a (l.length + 1) c).ownBlock = some k → v.ownBlock = some k ∨ w.heap.size ≤ k) := by
  obtain ⟨cs, g1, g2⟩ := h
  have hcl : cs.length = l.length * sz := g1.1
  obtain ⟨a, c, w', hrun, h4, F2, h5⟩ := add_gen hu0 hinf hzs hs0 hby g1 hb F1 g us hus BX h1 hn
  have hst : ∀ (us : List Value) (y : α), Kept (fun W => R W us y) (fun k => v.ownBlock = some k ∨ K k) w → Kept (fun W => R W us y) (fun k => (Value.slice a (l.length + 1) c).ownBlock = some k ∨ K k) w' := fun us y hq =>
    hq.step F2 (fun _ _ h => .inl h) (fun k hk => by
      rcases hk with h | h
      · rcases h5 k h with h | h
        · exact .inl (.inl h)
        · exact .inr h
      · exact .inl (.inr h))
  refine ⟨a, c, w', hrun, ⟨cs ++ us, by rw [List.length_append]; exact h4, fun i y hy => ?_⟩, F2, h5⟩
  rcases Nat.lt_or_ge i l.length with hi | hi
  · rw [List.getElem?_append_left hi] at hy
    obtain ⟨us', e1, e2, e3⟩ := g2 i y hy
    refine ⟨us', e1, fun j u hu => ?_, hst _ _ e3⟩
    have := e2 j u hu
    rw [List.getElem?_append_left (List.getElem?_eq_some_iff.1 this).1]
    exact this
  · obtain rfl : i = l.length := by
      have := (List.getElem?_eq_some_iff.1 hy).1
      simp at this
      omega
    rw [List.getElem?_append_right (Nat.le_refl _)] at hy
    simp at hy
    subst hy
    refine ⟨us, hus, fun j u hu => ?_, hst _ _ hk⟩
    rw [Nat.mul_comm, List.getElem?_append_right (by rw [hcl]; exact Nat.le_add_right _ _), hcl, Nat.add_sub_cancel_left]
    exact hu
end
def RPart (W : World) (cs : List Value) (p : Part) : Prop := ∃ x y, cs = [x, y] ∧ Ints W x p.o ∧ Bytes W y p.b
def RStep (W : World) (cs : List Value) (r : List Part) : Prop := ∃ u, cs = [u] ∧ Attrs W u r
theorem LAt.attrs {w : World} {v : Value} {l : List Part} (h : LAt 2 RPart w v l) : Attrs w v l := by
  obtain ⟨a, cap, rfl, h1, h2, h3⟩ := h
  refine ⟨a, cap, rfl, h1, h2, fun h0 => ?_⟩
  obtain ⟨b, o, rfl, hy⟩ := h3 h0
  refine ⟨b, o, rfl, fun i p hp => ?_⟩
  obtain ⟨cs, -, e2, x, y, rfl, g1, g2⟩ := hy i p hp
  exact ⟨x, y, e2 0 x rfl, e2 1 y rfl, g1, g2⟩
theorem LAt.name {w : World} {v : Value} {n : List (List Part)} (h : LAt 1 RStep w v n) : NameAt w v n := by
  obtain ⟨a, cap, rfl, h1, h2, h3⟩ := h
  refine ⟨a, cap, rfl, h1, h2, fun h0 => ?_⟩
  obtain ⟨b, o, rfl, hy⟩ := h3 h0
  refine ⟨b, o, rfl, fun i r hr => ?_⟩
  obtain ⟨cs, -, e2, u, rfl, g1⟩ := hy i r hr
  exact ⟨u, by have := e2 0 u rfl; rw [Nat.one_mul] at this; exact this, g1⟩
theorem Kept.imp {A B : World → Prop} {K : Nat → Prop} {w : World} (h : Kept A K w) (f : ∀ W, A W → B W) : Kept B K w := fun W g => f W (h W g)
theorem Kept.both {A B : World → Prop} {K : Nat → Prop} {w : World} (h : Kept A K w) (g : Kept B K w) : Kept (fun W => A W ∧ B W) K w := fun W f => ⟨h W f, g W f⟩
end Go.Q

namespace Go.Q
open Go Go.RowKit
end Go.Q

namespace Go.Q
open Go Go.RowKit
theorem cmpS_swap : ∀ a b : List UInt8, cmpS a b = - cmpS b a
  | [], [] => rfl
  | [], _ :: _ => rfl
  | _ :: _, [] => rfl
  | x :: a, y :: b => by
    simp only [cmpS]
    by_cases h : x = y
    · rw [if_pos h, if_pos h.symm]
      exact cmpS_swap a b
    · rw [if_neg h, if_neg (fun e : y = x => h e.symm)]
      have hne : x.toNat ≠ y.toNat := fun e => h (UInt8.toNat_inj.1 e)
      by_cases h1 : x.toNat < y.toNat
      · rw [if_pos h1, if_neg (by omega)]
      · rw [if_neg h1, if_pos (by omega)]
        rfl
def Upward (ls : List (List UInt8)) : Prop := ∀ (j : Nat) (x y : List UInt8), ls[j]? = some x → ls[j + 1]? = some y → 0 ≤ cmpS y x
theorem steps_in {p : Part} {t : List Part} {last : Option (List UInt8)} {ws : List (List UInt8)} (h : stepsS last (p :: t) = some ws) : ∃ x ws', attrS p.o p.b = some x ∧ stepsS (some x) t = some ws' ∧ ws = x :: ws' ∧ ∀ y, last = some y → cmpS y x < 0 := by
  simp only [stepsS] at h
  cases hx : attrS p.o p.b with
  | none => rw [hx] at h; cases h
  | some x =>
    rw [hx] at h
    simp only at h
    have key : (stepsS (some x) t).map (x :: ·) = some ws ∧ ∀ y, last = some y → cmpS y x < 0 := by
      cases last with
      | none =>
        rw [if_neg (by simp)] at h
        exact ⟨h, fun y e => by cases e⟩
      | some y =>
        by_cases hlt : 0 ≤ cmpS y x
        · rw [if_pos (by simpa using hlt)] at h; cases h
        · rw [if_neg (by simpa using hlt)] at h
          exact ⟨h, fun z e => by cases e; omega⟩
    obtain ⟨h, hlt⟩ := key
    cases hs : stepsS (some x) t with
    | none => rw [hs] at h; cases h
    | some ws' =>
      rw [hs] at h
      simp only [Option.map_some, Option.some.injEq] at h
      exact ⟨x, ws', rfl, hs, h.symm, hlt⟩
theorem steps_up : ∀ (l : List Part) (last : Option (List UInt8)) (ws : List (List UInt8)), stepsS last l = some ws → (∀ y x, last = some y → ws[0]? = some x → cmpS y x < 0) ∧ Upward ws ∧ ws.length = l.length
  | [], last, ws, h => by
    simp only [stepsS, Option.some.injEq] at h
    subst h
    exact ⟨fun _ _ _ h => by simp at h, fun _ _ _ h => by simp at h, rfl⟩
  | p :: t, last, ws, h => by
    obtain ⟨x, ws', -, hs, rfl, hlt⟩ := steps_in h
    obtain ⟨h1, h2, h3⟩ := steps_up t (some x) ws' hs
    refine ⟨fun y z hl hz => ?_, fun j a b ha hb => ?_, by rw [List.length_cons, List.length_cons, h3]⟩
    · simp only [List.getElem?_cons_zero, Option.some.injEq] at hz
      subst hz
      exact hlt y hl
    · cases j with
      | zero =>
        simp only [List.getElem?_cons_zero, Option.some.injEq, Nat.zero_add, List.getElem?_cons_succ] at ha hb
        subst ha
        have := h1 x b rfl hb
        have := cmpS_swap b x
        omega
      | succ j =>
        simp only [List.getElem?_cons_succ] at ha hb
        exact h2 j a b ha hb
theorem rdn_up {l : List Part} {ws : List (List UInt8)} (h : rdnS l = some ws) : Upward ws ∧ ws.length ≤ 16 := by
  unfold rdnS at h
  split at h
  · cases h
  rename_i hn
  obtain ⟨-, h2, h3⟩ := steps_up l none ws h
  exact ⟨h2, by omega⟩
def rdnWhole (ws : List (List UInt8)) : List UInt8 := wrapS (tagOf 17) ws.flatten
theorem mem_flat {ws : List (List UInt8)} {x : List UInt8} (h : x ∈ ws) : x.length ≤ ws.flatten.length := by
  obtain ⟨i, hi⟩ := List.mem_iff_getElem?.1 h
  have h1 := flat_take hi
  have h2 := flat_le ws (i + 1)
  rw [h1, List.length_append] at h2
  omega
end Go.Q
namespace Go.Proofs.YthamenngccaijaaGreatDoor
open Go Go.RowKit Go.Q
set_option linter.unusedSimpArgs false
set_option maxRecDepth 20000 in
set_option maxHeartbeats 2000000 in
theorem insertion_up (v : Value) (ls : List (List UInt8)) (w : World) (h : Parts w v ls) (hU : Upward ls) (hl : ∀ l ∈ ls, l.length ≤ 1099511627776) (hn : ls.length ≤ 1000) :
    Calls Tryz.prog 238 #[v, .int .i64 0, .int .i64 ls.length, .func (.func 146) #[] #[]] w fun e w' => e = .returned (.tuple #[]) ∧ Fr (fun _ => False) w w' := by
  obtain ⟨a, cap, rfl, hx⟩ := h.form
  have HX := Lib.hid hx
  have HU := Lib.hid hU
  have HL := Lib.hid hl
  clear h hx hU hl
  go_enter Tryz.func238, Tryz.ntmps238
  go_wp2_with fail
  go_loopg [8] ls.length (fun g ii wr => ∃ q : Nat, g = ls.length - q ∧ q ≤ 1000 ∧ ii = .int .i64 ((q : Int) + 1) ∧ Fr (fun _ => False) w wr)
  case atStart => exact ⟨0, rfl, by omega, rfl, Fr.refl _⟩
  case round =>
    obtain ⟨q, hg, hq, rfl, F⟩ := hrel
    have HG := Lib.hid hg
    have HF := Lib.hid F
    clear hg F
    by_cases hql : q + 1 < ls.length
    · have q1 : (q : Int) + 1 < (ls.length : Int) := by omega
      obtain ⟨b, off, rfl, hy⟩ := HX.out (by omega)
      obtain ⟨x, hx⟩ : ∃ x, ls[q]? = some x := ⟨_, List.getElem?_eq_getElem (by omega)⟩
      obtain ⟨y, hyy⟩ : ∃ y, ls[q + 1]? = some y := ⟨_, List.getElem?_eq_getElem hql⟩
      obtain ⟨px, cx, e1, hbx⟩ := hy q x hx
      obtain ⟨py, cy, e2, hby⟩ := hy (q + 1) y hyy
      have hcmp := HU.out q x y hx hyy
      obtain ⟨k, hk⟩ : ∃ k, k = cmpS y x := ⟨_, rfl⟩
      rw [← hk] at hcmp
      have HK := Lib.hid hk
      have hlx := HL.out x (List.mem_of_getElem? hx)
      have hly := HL.out y (List.mem_of_getElem? hyy)
      have HE := Lib.hid (fun w' (f : Fr (fun _ => False) w w') => And.intro (f.cell e1 (fun h => h)) (f.cell e2 (fun h => h)))
      have HC := Lib.hid (fun w' (f : Fr (fun _ => False) w w') => compare_any _ _ y x w' (hby.old f) (hbx.old f) hly hlx)
      rw [← HK.out] at HC
      have c1 : ¬ k < 0 := by omega
      have c2 : (0 : Int) < (q : Int) + 1 := by omega
      have c3 : (0 : Int) ≤ (q : Int) := by omega
      have c4 : (q : Int) < (ls.length : Int) := by omega
      clear hy hx hyy e1 e2 hbx hby hk hlx hly
      go_wp2_with fail
      go_loopg [9] 1 (fun g jj wx => g = 1 ∧ jj = .int .i64 ((q : Int) + 1) ∧ wx = wr)
      case atStart => exact ⟨rfl, rfl, rfl⟩
      case round =>
        obtain ⟨hg1, rfl, rfl⟩ := hrel
        clear hg1
        have HFD := Lib.hid HF.out.drew
        have hw1 : IntKind.i64.wrap ((q : Int) + 1 - 1) = (q : Int) := by simp [IntKind.wrap, IntKind.signed, IntKind.bits]; omega
        have hw2 : IntKind.i64.wrap (q : Int) = (q : Int) := by simp [IntKind.wrap, IntKind.signed, IntKind.bits]; omega
        have c6 : (0 : Int) ≤ (q : Int) + 1 := by omega
        have c7 : ((q : Int) + 1).toNat = q + 1 := by omega
        have c1' : decide (k < 0) = false := decide_eq_false (by omega)
        have c2' : decide ((0 : Int) < (q : Int) + 1) = true := decide_eq_true (by omega)
        have c5 : q < ls.length := by omega
        go_upto_region 4 with fail
        go_region_held3 (fun w' => w'.cell? ⟨b, off + q, none⟩ = some (.slice px x.length cx) ∧ w'.cell? ⟨b, off + (q + 1), none⟩ = some (.slice py y.length cy)) (first | exact HE.out _ HFD.out | exact HE.out _ (HFD.out.trans F2)) (first
          | (go_at_call 146; refine (HC.out _ HFD.out).mono ?_; rintro e w2 ⟨rfl, F2⟩))
        all_goals
          have HF2 := Lib.hid (HFD.out.trans F2)
          clear F2 hw1 hw2 c7 c1' c2' HFD
          go_wp2_with fail
          go_roundg (ls.length - (q + 1))
          case measure => rw [HG.out]; omega
          case rel => exact ⟨q + 1, rfl, by omega, by go_num, HF2.out⟩
    · have q1 : ¬ (q : Int) + 1 < (ls.length : Int) := by omega
      go_wp2_with fail
      go_end0
      exact ⟨rfl, HF.out⟩
set_option maxRecDepth 20000 in
set_option maxHeartbeats 2000000 in
theorem stable_up (v : Value) (ls : List (List UInt8)) (w : World) (h : Parts w v ls) (hU : Upward ls) (hl : ∀ l ∈ ls, l.length ≤ 1099511627776) (hn : ls.length ≤ 19) :
    Calls Tryz.prog 189 #[v, .int .i64 ls.length, .func (.func 146) #[] #[]] w fun e w' => e = .returned (.tuple #[]) ∧ Fr (fun _ => False) w w' := by
  have HI := Lib.hid (insertion_up v ls w h hU hl (by omega))
  obtain ⟨a, cap, rfl, -⟩ := h.form
  have q1 : ¬ (20 : Int) ≤ (ls.length : Int) := by omega
  have q2 : ¬ (20 : Int) < (ls.length : Int) := by omega
  clear h hU hl
  go_enter Tryz.func189, Tryz.ntmps189
  go_wp2_with fail
  go_loopg [7, 8] 1 (fun g aa bb wr => g = 1 ∧ aa = .int .i64 0 ∧ bb = .int .i64 20 ∧ wr = w)
  case atStart => exact ⟨rfl, rfl, rfl, rfl⟩
  case round =>
    obtain ⟨hg, rfl, rfl, rfl⟩ := hrel
    clear hg
    go_wp2_with fail
    refine HI.out.mono ?_
    rintro e w1 ⟨rfl, F1⟩
    have HF1 := Lib.hid F1
    clear F1
    go_wp2_with fail
    go_loopg [6] 1 (fun g bs wr => g = 1 ∧ bs = .int .i64 20 ∧ wr = w1)
    case atStart => exact ⟨rfl, rfl, rfl⟩
    case round =>
      obtain ⟨hg, rfl, rfl⟩ := hrel
      clear hg
      go_wp2_with fail
      go_end0
      exact ⟨rfl, HF1.out⟩
set_option maxRecDepth 20000 in
theorem sortStable_up (v : Value) (ls : List (List UInt8)) (w : World) (h : Parts w v ls) (hU : Upward ls) (hl : ∀ l ∈ ls, l.length ≤ 1099511627776) (hn : ls.length ≤ 19) :
    Calls Tryz.prog 148 #[v, .func (.func 146) #[] #[]] w fun e w' => e = .returned (.tuple #[]) ∧ Fr (fun _ => False) w w' := by
  have HI := Lib.hid (stable_up v ls w h hU hl hn)
  obtain ⟨a, cap, rfl, -⟩ := h.form
  clear h hU hl
  go_enter Tryz.func148, Tryz.ntmps148
  go_wp2_with fail
  refine HI.out.mono ?_
  rintro e w1 ⟨rfl, F1⟩
  go_wp2_with fail
  go_end0
  exact ⟨rfl, F1⟩
theorem parts_one {w : World} {ls : List (List UInt8)} {vs : List Value} (h3 : ∀ (i : Nat) (u : Value) (l : List UInt8), vs[i]? = some u → ls[i]? = some l → Bytes w u l) (h2 : vs.length = ls.length) : ∀ u ∈ vs, u.oneCell' = true := fun u hu => by
  obtain ⟨i, hi⟩ := List.mem_iff_getElem?.1 hu
  have hil : i < ls.length := by have := (List.getElem?_eq_some_iff.1 hi).1; omega
  obtain ⟨a, c, rfl, -⟩ := (h3 i u _ hi (List.getElem?_eq_getElem hil)).form
  rfl
set_option maxRecDepth 20000 in
set_option maxHeartbeats 1000000 in
theorem cloneParts_any (v : Value) (ls : List (List UInt8)) (w : World) (h : Parts w v ls) (hl : ls.length ≤ 100000000000) :
    Calls Tryz.prog 147 #[v] w fun e w' => (∃ u, e = .returned u ∧ Parts w' u ls) ∧ Fr (fun _ => False) w w' := by
  obtain ⟨vs, g1, g2, g3⟩ := h
  have h1 := parts_one g3 g2
  obtain ⟨a, cap, rfl, hc, hm, hx⟩ := g1
  have g1 : Vals w (.slice a vs.length cap) vs := ⟨a, cap, rfl, hc, hm, hx⟩
  have qT : ∀ (w : World) (a : Option Addr) (n c n' c' : Nat), (binOp .eql 136 (.slice a n c) (.slice none n' c')).run Tryz.prog w = .ok (.bool a.isNone) w := fun w a n c n' c' => Lib.run_eql_slice_nil w _ _ a n c n' c' Tryz.underlying136
  cases a with
  | none =>
    have h0 : vs = [] := by
      cases vs with
      | nil => rfl
      | cons u s =>
        obtain ⟨b, o, e, -⟩ := hx (by simp)
        cases e
    subst h0
    have hls : ls = [] := List.length_eq_zero_iff.1 g2.symm
    subst hls
    clear hx g1 g2 g3 h1
    go_enter Tryz.func147, Tryz.ntmps147
    go_wp2_with fail
    go_ret
    exact ⟨⟨_, rfl, [], Vals.nil w, rfl, fun i u l hu => by simp at hu⟩, Fr.refl _⟩
  | some ad =>
    have B0 := Blk.new w 23 #[]
    have F0 : Fr (fun _ => False) w (w.alloc (.cells #[] 23)) := (Fr.refl w).alloc _
    obtain ⟨a', c', w', hrun, hown, F1, -⟩ := append_vals Tryz.underlying136 info23 rfl (by decide) (own_block B0 0 (Nat.le_refl _) (Nat.zero_le _) w.heap.size (Nat.le_refl _)) F0.size (g1.old F0) h1 (by omega)
    rw [Nat.zero_add] at hrun hown
    have hF := F0.trans' F1 (fun i hi e => by simp [Value.ownBlock] at e; omega)
    have HF := Lib.hid hF
    have HP := Lib.hid (show Parts w' (.slice a' vs.length c') ls from ⟨vs, (Vals.of_own hown).1, g2, fun i u l hu hl => (g3 i u l hu hl).old hF⟩)
    have HRUN := Lib.hid hrun
    clear hrun hown F1 B0 F0 g1 g2 g3 h1 hx hF
    go_enter Tryz.func147, Tryz.ntmps147
    go_wp2_with (at_builtin; refine wpList_append_run (by rfl) (.tmp 5) (.tmp 6) 136 (by rfl) _ w' (by exact HRUN.out) ?_)
    go_ret
    exact ⟨⟨_, rfl, HP.out⟩, HF.out⟩
set_option maxRecDepth 20000 in
set_option maxHeartbeats 1000000 in
theorem setOf_up (v : Value) (ls : List (List UInt8)) (w : World) (h : Parts w v ls) (hU : Upward ls) (hf : ls.flatten.length ≤ 16777216) (hn : ls.length ≤ 19) (hl : ∀ l ∈ ls, l.length ≤ 1099511627776) :
    Calls Tryz.prog 105 #[v] w fun e w' => (∃ a c, e = .returned (.tuple #[.slice a (wrapS (tagOf 17) ls.flatten).length c, .int .i64 0]) ∧ w'.ownsRow w.heap.size 5 1 (.slice a (wrapS (tagOf 17) ls.flatten).length c) (wrapS (tagOf 17) ls.flatten).length (Lib.byteCells (wrapS (tagOf 17) ls.flatten))) ∧ Fr (fun _ => False) w w' := by
  have HC := Lib.hid (cloneParts_any v ls w h (by omega))
  obtain ⟨a, cap, rfl, -⟩ := h.form
  have HU := Lib.hid hU
  have HL := Lib.hid hl
  obtain ⟨T, hT⟩ : ∃ T, T = tagOf 17 := ⟨_, rfl⟩
  have HTG := Lib.hid (show tagGood T from by rw [hT]; exact ⟨by decide, by decide⟩)
  have HT := Lib.hid hT
  rw [← hT]
  clear h hU hl hT
  go_enter Tryz.func105, Tryz.ntmps105
  go_wp2_with fail
  refine HC.out.mono ?_
  rintro e w1 ⟨⟨u, rfl, hp⟩, F1⟩
  obtain ⟨a1, c1, rfl, -⟩ := hp.form
  have HS := Lib.hid (sortStable_up _ ls w1 hp HU.out HL.out hn)
  have HP := Lib.hid hp
  have HF1 := Lib.hid F1
  clear hp F1 HC
  go_wp2_with fail
  refine HS.out.mono ?_
  rintro e w2 ⟨rfl, F2⟩
  have HP2 := Lib.hid (HP.out.old F2)
  have HF2 := Lib.hid (HF1.out.trans F2)
  clear F2 HS HP HF1
  go_wp2_with fail
  refine (headOf_any 17 _).mono ?_
  rintro e w3 ⟨rfl, F3⟩
  rw [← HT.out]
  have HW := Lib.hid (wrap_any T HTG.out _ ls w3 (HP2.out.old F3) hf (by omega))
  have HF3 := Lib.hid (HF2.out.trans F3)
  clear F3 HP2 HF2
  go_wp2_with fail
  refine HW.out.mono ?_
  rintro e w4 ⟨v4, rfl, hown, F4⟩
  obtain ⟨a4, m4, c4, rfl, rfl⟩ := own_shape hown
  have HO := Lib.hid (own_le hown HF3.out.size)
  have HF4 := Lib.hid (HF3.out.trans F4)
  clear hown F4 HW
  go_wp2_with fail
  exact bodyPost_ret (v := .tuple #[.slice a4 (wrapS T ls.flatten).length c4, .int .i64 0]) (by simp [results, Tryz.results105, go_sem]) rfl ⟨⟨a4, c4, rfl, HO.out⟩, HF4.out⟩
def writeRdnOut (w w' : World) (r : Option (List (List UInt8))) (e : Ending) : Prop :=
  match r with
  | none => e = .returned (.tuple #[.slice none 0 0, .int .i64 1])
  | some ws => ∃ a c, e = .returned (.tuple #[.slice a (rdnWhole ws).length c, .int .i64 0]) ∧ w'.ownsRow w.heap.size 5 1 (.slice a (rdnWhole ws).length c) (rdnWhole ws).length (Lib.byteCells (rdnWhole ws))
set_option maxRecDepth 20000 in
set_option maxHeartbeats 1000000 in
theorem writeRdn_any (v : Value) (l : List Part) (w : World) (h : Attrs w v l) (hf : fewB l) (hs : ∀ ws, rdnS l = some ws → ws.flatten.length ≤ 16777216) :
    Calls Tryz.prog 57 #[v] w fun e w' => writeRdnOut w w' (rdnS l) e ∧ Fr (fun _ => False) w w' := by
  have HW := Lib.hid (wholesRdn_any v l w h hf)
  have HS := Lib.hid hs
  obtain ⟨a, cap, rfl, -⟩ := h
  clear hs
  go_enter Tryz.func57, Tryz.ntmps57
  go_wp2_with fail
  refine HW.out.mono ?_
  rintro e w1 ⟨⟨u, rfl, hr⟩, F1⟩
  have HF1 := Lib.hid F1
  clear F1 HW
  cases hd : rdnS l with
  | none =>
    clear hr
    have HD := Lib.hid hd
    clear hd
    simp only [Option.isSome_none]
    go_wp2_with fail
    refine bodyPost_ret (v := .tuple #[.slice none 0 0, .int .i64 1]) (by simp [results, Tryz.results57, go_sem]) rfl ⟨?_, HF1.out⟩
    rw [HD.out]
    rfl
  | some ws =>
    have hp := (hr ws hd).parts
    obtain ⟨hu, hn⟩ := rdn_up hd
    have hsz := HS.out ws hd
    obtain ⟨a1, c1, rfl, -⟩ := hp.form
    have HSO := Lib.hid (setOf_up _ ws w1 hp hu hsz (by omega) (fun l hl => by have := mem_flat hl; omega))
    obtain ⟨R, hR⟩ : ∃ R, R = rdnWhole ws := ⟨_, rfl⟩
    have HR := Lib.hid hR
    rw [show wrapS (tagOf 17) ws.flatten = R from hR.symm] at HSO
    simp only [Option.isSome_some]
    have HD := Lib.hid hd
    clear hr hp hu hsz hd hR
    go_wp2_with fail
    refine HSO.out.mono ?_
    rintro e w2 ⟨⟨a2, c2, rfl, hown⟩, F2⟩
    have HO := Lib.hid (own_le hown HF1.out.size)
    have HF2 := Lib.hid (HF1.out.trans F2)
    clear hown F2 HSO
    go_wp2_with fail
    refine bodyPost_ret (v := .tuple #[.slice a2 R.length c2, .int .i64 0]) (by simp [results, Tryz.results57, go_sem]) rfl ⟨?_, HF2.out⟩
    rw [HD.out]
    unfold writeRdnOut
    simp only
    rw [← HR.out]
    exact ⟨a2, c2, rfl, HO.out⟩
end Go.Proofs.YthamenngccaijaaGreatDoor

namespace Go.Proofs.YthamenngccaijaaGreatDoor
open Go Go.RowKit Go.Q
set_option linter.unusedSimpArgs false
theorem info158 : (Tryz.prog.info? 158).map (fun i => (i.zero, i.size, i.bytes)) = some (some (.agg #[.int .i64 0, .int .i64 0, .bool false, .bool false, .slice none 0 0]), 5, 56) := by kernel_rfl
theorem setAt4 {w : World} {z : Nat} {t : TypeId} {a0 a1 a2 a3 a4 a5 a6 : Value} (B : Blk w z t #[a0, a1, a2, a3, a4, a5, a6]) (v : Value) : Blk (w.setCell ⟨z, 4, none⟩ v) z t #[a0, a1, a2, a3, v, a5, a6] ∧ Fr (fun k => k = z) w (w.setCell ⟨z, 4, none⟩ v) :=
  ⟨by have := B.set 4 v; simpa using this, Fr.setCell (S := fun k => k = z) (p := ⟨z, 4, none⟩) (Fr.refl w) (fun _ => rfl) _⟩
set_option maxRecDepth 20000 in
theorem off_no (sb : Nat) (w : World) (h : w.cell? ⟨sb, 6, none⟩ = some (.int .i64 0)) :
    Calls Tryz.prog 106 #[pt sb] w fun e w' => e = .returned (.bool false) ∧ w = w' := by
  go_enter Tryz.func106, Tryz.ntmps106
  go_wp2_with fail
  go_ret
  exact ⟨rfl, rfl⟩
set_option maxRecDepth 20000 in
set_option maxHeartbeats 1000000 in
theorem frameAdd_any (sb : Nat) (t : TypeId) (a0 a1 a2 a3 a5 a6 bv u : Value) (base n : Nat) (xs ys : List UInt8) (w : World) (B : Blk w sb t #[a0, a1, a2, a3, bv, a5, a6]) (ho : w.ownsRow base 5 1 bv n (Lib.byteCells xs)) (hu : Bytes w u ys) (hb : base ≤ w.heap.size) (hap : ∀ k, bv.ownBlock = some k → k ≠ sb) (hn : n + ys.length ≤ 100000000) :
    Calls Tryz.prog 107 #[pt sb, u] w fun e w' => e = .returned (.tuple #[]) ∧ ∃ v, Blk w' sb t #[a0, a1, a2, a3, v, a5, a6] ∧ w'.ownsRow base 5 1 v (n + ys.length) (Lib.byteCells (xs ++ ys)) ∧ (∀ k, v.ownBlock = some k → bv.ownBlock = some k ∨ w.heap.size ≤ k) ∧ Fr (fun k => k = sb ∨ bv.ownBlock = some k) w w' := by
  obtain ⟨ab, mb, cb, rfl, rfl⟩ := own_shape ho
  obtain ⟨au, cu, rfl, -⟩ := hu.form
  have e4 := B.cell 4
  simp at e4
  obtain ⟨v, w1, hrun, ho1, F1, hv⟩ := append_bytes ho au ys.length cu ys hu (by omega) hb
  have B1 := B.fr F1 (fun e => hap sb e rfl)
  have SB := B1.cell
  have ZB := B1.frozen
  have HRUN := Lib.hid hrun
  have HO := Lib.hid ho1
  have HF1 := Lib.hid F1
  have HV := Lib.hid hv
  have HB1 := Lib.hid B1
  have hkp := (Vals.of_own ho).2
  have HKP := Lib.hid hkp
  have hlt := B.lt
  obtain ⟨a1, m1, c1, rfl, rfl⟩ := own_shape ho1
  clear hrun ho1 F1 hv hu ho B B1 hkp
  go_enter Tryz.func107, Tryz.ntmps107
  go_wp2_with (at_builtin; refine wpList_append_run (by rfl) (.tmp 8) (.tmp 9) 23 (by rfl) _ w1 (by exact HRUN.out) ?_)
  obtain ⟨B2, F2⟩ := setAt4 HB1.out (.slice a1 (mb + ys.length) c1)
  have hne : ∀ k, (Value.slice a1 (mb + ys.length) c1).ownBlock = some k → k ≠ sb := fun k hk e => by
    subst e
    rcases HV.out with h | h
    · rw [h] at hk
      exact hap k hk rfl
    · rw [h] at hk
      simp only [Option.some.injEq] at hk
      omega
  go_end0
  exact ⟨rfl, _, B2, ownsRow_fr HO.out F2 hne, fun k hk => by
    rcases HV.out with h | h
    · exact .inl (h ▸ hk)
    · rw [h] at hk
      simp only [Option.some.injEq] at hk
      exact .inr (by omega), (HF1.out.mono (fun _ _ h => .inr h)).trans (F2.mono (fun _ _ h => .inl h))⟩
structure Frm where
  tag : Tag
  set : Bool
  b : List UInt8
def frmCells (f : Frm) (bv : Value) : List Value := [.int .i64 f.tag.cls, .int .i64 f.tag.num, .bool f.tag.made, .bool f.set, bv]
def SheetAt (w : World) (base : Nat) (foot : Nat → Prop) (sb : Nat) (cur : Frm) (ar : List Frm) : Prop :=
  ∃ (bv av : Value) (bvs : List Value), Blk w sb 161 #[.int .i64 cur.tag.cls, .int .i64 cur.tag.num, .bool cur.tag.made, .bool cur.set, bv, av, .int .i64 0] ∧ foot sb ∧ w.ownsRow base 5 1 bv cur.b.length (Lib.byteCells cur.b) ∧
    bvs.length = ar.length ∧ w.ownsRow base 158 5 av ar.length (List.zipWith frmCells ar bvs).flatten ∧ (∀ (i : Nat) (b : Value) (f : Frm), bvs[i]? = some b → ar[i]? = some f → w.ownsRow base 5 1 b f.b.length (Lib.byteCells f.b)) ∧
    (∀ k, bv.ownBlock = some k → k ≠ sb ∧ foot k) ∧ (∀ k, av.ownBlock = some k → k ≠ sb ∧ bv.ownBlock ≠ some k ∧ foot k) ∧ (∀ b ∈ bvs, ∀ k, b.ownBlock = some k → k ≠ sb ∧ bv.ownBlock ≠ some k ∧ av.ownBlock ≠ some k ∧ foot k) ∧ bvs.Pairwise (fun b b' => ∀ k, b.ownBlock = some k → b'.ownBlock ≠ some k)
theorem SheetAt.fr {w w' : World} {base sb : Nat} {foot S : Nat → Prop} {cur : Frm} {ar : List Frm} (h : SheetAt w base foot sb cur ar) (f : Fr S w w') (hS : ∀ k, foot k → ¬ S k) : SheetAt w' base foot sb cur ar := by
  obtain ⟨bv, av, bvs, B, h0, h1, h2, h3, h4, h5, h6, h7, h8⟩ := h
  exact ⟨bv, av, bvs, B.fr f (hS sb h0), h0, ownsRow_fr h1 f (fun k hk => hS k (h5 k hk).2), h2, ownsRow_fr h3 f (fun k hk => hS k (h6 k hk).2.2), fun i b g hb hg => ownsRow_fr (h4 i b g hb hg) f (fun k hk => hS k (h7 b (List.mem_of_getElem? hb) k hk).2.2.2), h5, h6, h7, h8⟩
theorem SheetAt.old {w w' : World} {base sb : Nat} {foot : Nat → Prop} {cur : Frm} {ar : List Frm} (h : SheetAt w base foot sb cur ar) (f : Fr (fun _ => False) w w') : SheetAt w' base foot sb cur ar := h.fr f (fun _ _ h => h)
theorem SheetAt.lt {w : World} {base sb : Nat} {foot : Nat → Prop} {cur : Frm} {ar : List Frm} (h : SheetAt w base foot sb cur ar) : sb < w.heap.size := by
  obtain ⟨bv, av, bvs, B, -⟩ := h
  exact B.lt
theorem sheetNew_any (w : World) :
    Calls Tryz.prog 54 #[] w fun e w' => e = .returned (pt w.heap.size) ∧ SheetAt w' w.heap.size (fun k => k = w.heap.size) w.heap.size ⟨⟨0, 0, false⟩, false, []⟩ [] ∧ Fr (fun _ => False) w w' := by
  go_enter Tryz.func54, Tryz.ntmps54
  go_wp2_with fail
  go_ret
  refine ⟨rfl, ⟨.slice none 0 0, .slice none 0 0, [], Blk.new w _ _, rfl, ⟨rfl, .inl ⟨rfl, rfl⟩⟩, rfl, ⟨rfl, .inl ⟨rfl, rfl⟩⟩, (fun i b f h => by simp at h), (fun k h => by cases h), (fun k h => by cases h), (fun b h => by simp at h), List.Pairwise.nil⟩, (Fr.refl w).alloc _⟩
def Frm.more (f : Frm) (l : List UInt8) : Frm := ⟨f.tag, f.set, f.b ++ l⟩
theorem sheetAdd_any (sb base : Nat) (foot : Nat → Prop) (cur : Frm) (ar : List Frm) (u : Value) (ys : List UInt8) (w : World) (h : SheetAt w base foot sb cur ar) (hu : Bytes w u ys) (hb : base ≤ w.heap.size) (hn : cur.b.length + ys.length ≤ 100000000) :
    Calls Tryz.prog 107 #[pt sb, u] w fun e w' => e = .returned (.tuple #[]) ∧ SheetAt w' base (fun k => foot k ∨ w.heap.size ≤ k) sb (cur.more ys) ar ∧ Fr foot w w' := by
  have hlt := h.lt
  obtain ⟨bv, av, bvs, B, h0, h1, h2, h3, h4, h5, h6, h7, h8⟩ := h
  have hlk := (Vals.of_own h1).2
  refine (frameAdd_any sb _ _ _ _ _ _ _ bv u base cur.b.length cur.b ys w B h1 hu hb (fun k hk => (h5 k hk).1) hn).mono fun e w' ⟨he, v, B2, ho, hv, F⟩ => ⟨he, ⟨v, av, bvs, B2, .inl h0, ?_, h2, ?_, fun i b g hg1 hg2 => ?_, fun k hk => ?_, fun k hk => ?_, fun b hbm k hk => ?_, h8⟩, F.mono (fun k _ hk => ?_)⟩
  · show w'.ownsRow base 5 1 v (cur.b ++ ys).length (Lib.byteCells (cur.b ++ ys))
    rw [List.length_append]
    exact ho
  · exact ownsRow_fr h3 F (fun k hk e => by
      rcases e with e | e
      · exact (h6 k hk).1 e
      · exact (h6 k hk).2.1 e)
  · exact ownsRow_fr (h4 i b g hg1 hg2) F (fun k hk e => by
      have := h7 b (List.mem_of_getElem? hg1) k hk
      rcases e with e | e
      · exact this.1 e
      · exact this.2.1 e)
  · rcases hv k hk with h | h
    · exact ⟨(h5 k h).1, .inl (h5 k h).2⟩
    · exact ⟨by omega, .inr h⟩
  · refine ⟨(h6 k hk).1, fun e => ?_, .inl (h6 k hk).2.2⟩
    rcases hv k e with h | h
    · exact (h6 k hk).2.1 h
    · have := h3.lt k hk
      omega
  · have := h7 b hbm k hk
    refine ⟨this.1, fun e => ?_, this.2.2.1, .inl this.2.2.2⟩
    rcases hv k e with h | h
    · exact this.2.1 h
    · obtain ⟨i, hi⟩ := List.mem_iff_getElem?.1 hbm
      have hil : i < ar.length := by have := (List.getElem?_eq_some_iff.1 hi).1; omega
      have := (h4 i b _ hi (List.getElem?_eq_getElem hil)).lt k hk
      omega
  · rcases hk with hk | hk
    · subst hk; exact h0
    · exact (h5 k hk).2
set_option maxRecDepth 20000 in
set_option maxHeartbeats 2000000 in
theorem sheetPut_any (sb base : Nat) (foot : Nat → Prop) (cur : Frm) (ar : List Frm) (u : Value) (ls : List (List UInt8)) (w : World) (h : SheetAt w base foot sb cur ar) (hu : Kept (fun W => Parts W u ls) foot w) (hb : base ≤ w.heap.size) (hn : cur.b.length + ls.flatten.length ≤ 100000000) (hln : ls.length ≤ 1000000) :
    Calls Tryz.prog 59 #[pt sb, u] w fun e w' => e = .returned (.tuple #[]) ∧ SheetAt w' base (fun k => foot k ∨ w.heap.size ≤ k) sb (cur.more ls.flatten) ar ∧ Fr foot w w' := by
  have H := Lib.hid h
  have HU := Lib.hid hu
  obtain ⟨a, cap, rfl, -⟩ := hu.now.form
  obtain ⟨bv, av, bvs, B, h0, -⟩ := h
  have e6 := B.cell 6
  simp at e6
  clear B hu h0
  go_enter Tryz.func59, Tryz.ntmps59
  go_wp2_with fail
  refine (off_no sb w e6).mono ?_
  rintro e w0 ⟨rfl, rfl⟩
  clear e6
  go_wp2_with fail
  go_loopg [10] ls.length (fun g ii wr => ∃ j : Nat, g = ls.length - j ∧ j ≤ ls.length ∧ ii = .int .i64 j ∧ SheetAt wr base (fun k => foot k ∨ w.heap.size ≤ k) sb (cur.more (ls.take j).flatten) ar ∧ Fr foot w wr)
  case atStart =>
    obtain ⟨bv, av, bvs, B, h0, h1, h2, h3, h4, h5, h6, h7, h8⟩ := H.out
    refine ⟨0, rfl, Nat.zero_le _, rfl, ⟨bv, av, bvs, B, .inl h0, ?_, h2, h3, h4, fun k hk => ⟨(h5 k hk).1, .inl (h5 k hk).2⟩, fun k hk => ⟨(h6 k hk).1, (h6 k hk).2.1, .inl (h6 k hk).2.2⟩, fun b hb k hk => ⟨(h7 b hb k hk).1, (h7 b hb k hk).2.1, (h7 b hb k hk).2.2.1, .inl (h7 b hb k hk).2.2.2⟩, h8⟩, Fr.refl _⟩
    simpa [Frm.more] using h1
  case round =>
    obtain ⟨j, hg, hj, rfl, hS, F⟩ := hrel
    have HG := Lib.hid hg
    have HS := Lib.hid hS
    have HF := Lib.hid F
    clear hg hS F
    by_cases hjl : j < ls.length
    · have q1 : (j : Int) < (ls.length : Int) := by omega
      have hP := HU.out wr HF.out
      obtain ⟨_, _, he, hx⟩ := hP.form
      simp only [Value.slice.injEq, true_and] at he
      obtain ⟨rfl, rfl⟩ := he
      obtain ⟨b, off, rfl, hy⟩ := hx (by omega)
      obtain ⟨l, hl⟩ : ∃ l, ls[j]? = some l := ⟨_, List.getElem?_eq_getElem hjl⟩
      obtain ⟨pl, cl, e1, hbl⟩ := hy j l hl
      have hft := flat_take hl
      have hfl := flat_le ls (j + 1)
      rw [hft, List.length_append] at hfl
      have HA := Lib.hid (sheetAdd_any sb base _ _ ar _ l wr HS.out hbl (Nat.le_trans hb HF.out.size) (by
        show (cur.b ++ (ls.take j).flatten).length + l.length ≤ 100000000
        rw [List.length_append]; omega))
      have HFT := Lib.hid hft
      have s0 : (0 : Int) ≤ (j : Int) := by omega
      have hlt := HS.out.lt
      have hs0 := HF.out.size
      clear hP hx hy hl hbl hft hfl
      go_wp2_with fail
      refine HA.out.mono ?_
      rintro e w1 ⟨rfl, S1, F1⟩
      have HF1 := Lib.hid (HF.out.trans' F1 (fun k hk e => by
        rcases e with e | e
        · exact e
        · omega))
      have S2 : SheetAt w1 base (fun k => foot k ∨ w.heap.size ≤ k) sb (cur.more (ls.take (j + 1)).flatten) ar := by
        obtain ⟨bv, av, bvs, B, h0, h1, h2, h3, h4, h5, h6, h7, h8⟩ := S1
        have hw : ∀ k, ((foot k ∨ w.heap.size ≤ k) ∨ wr.heap.size ≤ k) → (foot k ∨ w.heap.size ≤ k) := fun k hk => by
          rcases hk with h | h
          · exact h
          · exact .inr (by omega)
        have hm : (cur.more (ls.take j).flatten).more l = cur.more (ls.take (j + 1)).flatten := by
          rw [HFT.out]
          simp [Frm.more]
        rw [← hm]
        exact ⟨bv, av, bvs, B, hw _ h0, h1, h2, h3, h4, fun k hk => ⟨(h5 k hk).1, hw k (h5 k hk).2⟩, fun k hk => ⟨(h6 k hk).1, (h6 k hk).2.1, hw k (h6 k hk).2.2⟩, fun b hb k hk => ⟨(h7 b hb k hk).1, (h7 b hb k hk).2.1, (h7 b hb k hk).2.2.1, hw k (h7 b hb k hk).2.2.2⟩, h8⟩
      have HS2 := Lib.hid S2
      clear S1 F1 HA S2
      go_wp2_with fail
      go_roundg (ls.length - (j + 1))
      case measure => rw [HG.out]; omega
      case rel => exact ⟨j + 1, rfl, by omega, by go_num, HS2.out, HF1.out⟩
    · obtain rfl : j = ls.length := by omega
      have q1 : ¬ (ls.length : Int) < (ls.length : Int) := by omega
      have hS := HS.out
      rw [List.take_length] at hS
      go_wp2_with fail
      go_end0
      exact ⟨rfl, hS, HF.out⟩
end Go.Proofs.YthamenngccaijaaGreatDoor

namespace Go.Proofs.YthamenngccaijaaGreatDoor
open Go Go.RowKit Go.Q
set_option linter.unusedSimpArgs false
set_option maxRecDepth 20000 in
theorem sheetFail_no (sb base : Nat) (foot : Nat → Prop) (cur : Frm) (ar : List Frm) (w : World) (h : SheetAt w base foot sb cur ar) :
    Calls Tryz.prog 58 #[pt sb, .int .i64 0] w fun e w' => e = .returned (.tuple #[]) ∧ SheetAt w' base foot sb cur ar ∧ Fr foot w w' := by
  have hlt := h.lt
  obtain ⟨bv, av, bvs, B, h0, h1, h2, h3, h4, h5, h6, h7, h8⟩ := h
  have e6 := B.cell 6
  have f6 := B.frozen 6
  simp at e6
  have B2 : Blk (w.setCell ⟨sb, 6, none⟩ (.int .i64 0)) sb 161 #[.int .i64 cur.tag.cls, .int .i64 cur.tag.num, .bool cur.tag.made, .bool cur.set, bv, av, .int .i64 0] := by
    have := B.set 6 (.int .i64 0)
    simpa using this
  have F2 : Fr (fun k => k = sb) w (w.setCell ⟨sb, 6, none⟩ (.int .i64 0)) := Fr.setCell (S := fun k => k = sb) (p := ⟨sb, 6, none⟩) (Fr.refl w) (fun _ => rfl) _
  have HB := Lib.hid B2
  have HF := Lib.hid F2
  have HH := Lib.hid (show SheetAt (w.setCell ⟨sb, 6, none⟩ (.int .i64 0)) base foot sb cur ar from ⟨bv, av, bvs, B2, h0, ownsRow_fr h1 F2 (fun k hk => (h5 k hk).1), h2, ownsRow_fr h3 F2 (fun k hk => (h6 k hk).1), fun i b g hb hg => ownsRow_fr (h4 i b g hb hg) F2 (fun k hk => (h7 b (List.mem_of_getElem? hb) k hk).1), h5, h6, h7, h8⟩)
  clear B B2 F2 h1 h2 h3 h4 h5 h6 h7 h8
  go_enter Tryz.func58, Tryz.ntmps58
  go_wp2_with fail
  refine (off_no sb w e6).mono ?_
  rintro e w0 ⟨rfl, rfl⟩
  go_wp2_with fail
  go_end0
  exact ⟨rfl, HH.out, HF.out.mono (fun k _ hk => by rw [hk]; exact h0)⟩
theorem set5of7 {w : World} {z : Nat} {t : TypeId} {a0 a1 a2 a3 a4 a5 a6 : Value} (B : Blk w z t #[a0, a1, a2, a3, a4, a5, a6]) (v0 v1 v2 v3 v4 : Value) :
    Blk (((((w.setCell ⟨z, 0, none⟩ v0).setCell ⟨z, 1, none⟩ v1).setCell ⟨z, 2, none⟩ v2).setCell ⟨z, 3, none⟩ v3).setCell ⟨z, 4, none⟩ v4) z t #[v0, v1, v2, v3, v4, a5, a6] ∧ Fr (fun k => k = z) w (((((w.setCell ⟨z, 0, none⟩ v0).setCell ⟨z, 1, none⟩ v1).setCell ⟨z, 2, none⟩ v2).setCell ⟨z, 3, none⟩ v3).setCell ⟨z, 4, none⟩ v4) := by
  have G : ∀ {w' : World}, Fr (fun k => k = z) w w' → ∀ (i : Nat) (v : Value), Fr (fun k => k = z) w (w'.setCell ⟨z, i, none⟩ v) := fun f i v => Fr.setCell (S := fun k => k = z) (p := ⟨z, i, none⟩) f (fun _ => rfl) v
  refine ⟨?_, G (G (G (G (G (Fr.refl w) _ _) _ _) _ _) _ _) _ _⟩
  have := ((((B.set 0 v0).set 1 v1).set 2 v2).set 3 v3).set 4 v4
  simpa using this
theorem setAt5 {w : World} {z : Nat} {t : TypeId} {a0 a1 a2 a3 a4 a5 a6 : Value} (B : Blk w z t #[a0, a1, a2, a3, a4, a5, a6]) (v : Value) : Blk (w.setCell ⟨z, 5, none⟩ v) z t #[a0, a1, a2, a3, a4, v, a6] ∧ Fr (fun k => k = z) w (w.setCell ⟨z, 5, none⟩ v) :=
  ⟨by have := B.set 5 v; simpa using this, Fr.setCell (S := fun k => k = z) (p := ⟨z, 5, none⟩) (Fr.refl w) (fun _ => rfl) _⟩
theorem frm_one (f : Frm) {bv : Value} (h : bv.oneCell' = true) : ∀ u ∈ frmCells f bv, u.oneCell' = true := fun u hu => by
  simp only [frmCells, List.mem_cons, List.not_mem_nil, or_false] at hu
  rcases hu with rfl | rfl | rfl | rfl | rfl <;> first | rfl | exact h
set_option maxRecDepth 20000 in
set_option maxHeartbeats 2000000 in
theorem sheetOpen1_any (sb base : Nat) (foot : Nat → Prop) (cur : Frm) (ar : List Frm) (T : Tag) (st : Bool) (w : World) (h : SheetAt w base foot sb cur ar) (hb : base ≤ w.heap.size) (har : ar.length ≤ 1000) :
    Calls Tryz.prog 104 #[pt sb, .agg #[.int .i64 T.cls, .int .i64 T.num, .bool T.made, .bool st, .slice none 0 0]] w fun e w' => e = .returned (.tuple #[]) ∧ SheetAt w' base (fun k => foot k ∨ w.heap.size ≤ k) sb ⟨T, st, []⟩ (ar ++ [cur]) ∧ Fr foot w w' := by
  have hlt := h.lt
  have F0 : Fr (fun _ => False) w (w.alloc (.cells #[.int .i64 T.cls, .int .i64 T.num, .bool T.made, .bool st, .slice none 0 0] 158)) := (Fr.refl w).alloc _
  obtain ⟨bv, av, bvs, B, h0, h1, h2, h3, h4, h5, h6, h7, h8⟩ := h
  have hav : ∀ k, av.ownBlock = some k → k < w.heap.size := fun k hk => (h3.lt k hk).2
  have hbvl : ∀ k, bv.ownBlock = some k → k < w.heap.size := fun k hk => (h1.lt k hk).2
  have HBL := Lib.hid hbvl
  have HAV := Lib.hid hav
  replace B := B.fr F0 (fun h => h)
  replace h1 := ownsRow_fr h1 F0 (fun _ _ h => h)
  replace h3 := ownsRow_fr h3 F0 (fun _ _ h => h)
  replace h4 : ∀ (i : Nat) (b : Value) (f : Frm), bvs[i]? = some b → ar[i]? = some f → _ := fun i b f hb hf => ownsRow_fr (h4 i b f hb hf) F0 (fun _ _ h => h)
  have BF := Blk.new w 158 #[.int .i64 T.cls, .int .i64 T.num, .bool T.made, .bool st, .slice none 0 0]
  obtain ⟨z, hz⟩ : ∃ z, z = w.heap.size := ⟨_, rfl⟩
  rw [← hz] at BF
  have HZ := Lib.hid hz
  have hzs : z ≠ sb := by omega
  clear hz hav hbvl
  go_enter Tryz.func104, Tryz.ntmps104
  go_upto_region 1 with fail
  rw [← HZ.out]
  generalize (w.alloc (.cells #[.int .i64 T.cls, .int .i64 T.num, .bool T.made, .bool st, .slice none 0 0] 158)) = w0 at *
  have e6 := B.cell 6
  simp at e6
  obtain ⟨abv, nbv, cbv, rfl, hnbv⟩ := own_shape h1
  obtain ⟨aav, nav, cav, rfl, hnav⟩ := own_shape h3
  obtain ⟨cells, hcells⟩ : ∃ cells, cells = frmCells cur (.slice abv nbv cbv) := ⟨_, rfl⟩
  obtain ⟨wa, hwa⟩ : ∃ wa, wa = w0.drew.alloc (.cells cells.toArray 158) := ⟨_, rfl⟩
  have Fa : Fr (fun _ => False) w0 wa := by rw [hwa]; exact (Fr.refl w0).drew.alloc _
  have hbw := F0.size
  obtain ⟨a7, c7, w7, hrun, ho7, F7, hv7⟩ := add_gen Tryz.underlying159 info158 rfl (by decide) (by decide) h3 (Nat.le_trans hb hbw) Fa w0.heap.size cells (by rw [hcells]; rfl) (by rw [hwa]; exact Blk.new w0.drew _ _) (by rw [hcells]; exact frm_one cur rfl) (by omega)
  have B7 := B.fr F7 (fun e => (h6 sb e).1 rfl)
  have HS0 := Lib.hid B.cell
  have HSA := Lib.hid (B.alloc (.cells #[.int .i64 cur.tag.cls, .int .i64 cur.tag.num, .bool cur.tag.made, .bool cur.set, .slice abv nbv cbv] 158)).cell
  have HCa := Lib.hid (B.fr Fa (fun h => h)).cell
  have HC7 := Lib.hid B7.cell
  have HZ7 := Lib.hid B7.frozen
  have HB7 := Lib.hid B7
  have HF7 := Lib.hid F7
  have HO7 := Lib.hid ho7
  have HV7 := Lib.hid hv7
  have HCL := Lib.hid hcells
  have HBF := Lib.hid BF
  have H1 := Lib.hid h1
  have H3 := Lib.hid h3
  have H4 := Lib.hid h4
  have H5 := Lib.hid h5
  have H6 := Lib.hid h6
  have H7 := Lib.hid h7
  have H8 := Lib.hid h8
  have HN := Lib.hid hnbv
  have HNA := Lib.hid hnav
  rw [hwa, hcells] at hrun
  rw [hwa] at HCa
  rw [hcells] at HCa
  have HRUN := Lib.hid hrun
  clear hrun ho7 F7 hv7 B7 B BF Fa hwa hcells h1 h3 h4 h5 h6 h7 h8 hnbv hnav
  go_wp2_with fail
  refine (off_no sb w0 e6).mono ?_
  rintro e w0' ⟨rfl, rfl⟩
  go_upto_region 2 with fail
  have S0 := HS0.out
  have Sa := HSA.out
  have S7 := HC7.out
  have Z7 := HZ7.out
  go_region_law (first
    | (refine step_append_run (by rfl) (.tmp 10) (.tmp 15) 159 (by rfl) _ w7 (by exact HRUN.out) ?_)
    | fail)
  all_goals
    obtain ⟨B8, F8⟩ := setAt5 HB7.out (.slice a7 (ar.length + 1) c7)
    have G8 := (HF7.out.mono (T := fun k => k = sb ∨ (Value.slice aav nav cav).ownBlock = some k) (fun _ _ h => .inr h)).trans (F8.mono (fun _ _ h => .inl h))
    have BF8 := (HBF.out.fr G8 (fun e => by
      rcases e with e | e
      · exact hzs e
      · have := HAV.out z e
        have := HZ.out
        omega))
    generalize (w7.setCell ⟨sb, 5, none⟩ (.slice a7 (ar.length + 1) c7)) = w8 at *
    have SB := B8.cell
    have ZB := B8.frozen
    have SF := BF8.cell
    clear S0 Sa S7 Z7
    go_wp2_with fail
    obtain ⟨B9, F9⟩ := set5of7 B8 (.int .i64 T.cls) (.int .i64 T.num) (.bool T.made) (.bool st) (.slice none 0 0)
    generalize (((((w8.setCell ⟨sb, 0, none⟩ (.int .i64 T.cls)).setCell ⟨sb, 1, none⟩ (.int .i64 T.num)).setCell ⟨sb, 2, none⟩ (.bool T.made)).setCell ⟨sb, 3, none⟩ (.bool st)).setCell ⟨sb, 4, none⟩ (.slice none 0 0)) = w9 at *
    have G9 : Fr (fun k => k = sb ∨ (Value.slice aav nav cav).ownBlock = some k) w0 w9 := G8.trans (F9.mono (fun _ _ h => .inl h))
    have h1 := H1.out
    have h3 := H3.out
    have h4 := H4.out
    have h5 := H5.out
    have h6 := H6.out
    have h7 := H7.out
    have hv := HV7.out
    have hlt7 : ∀ k, (Value.slice a7 (ar.length + 1) c7).ownBlock = some k → k ≠ sb := fun k hk => by
      rcases hv k hk with h | h
      · exact (h6 k h).1
      · omega
    have hbl : ∀ (i : Nat) (b : Value) (f : Frm), bvs[i]? = some b → ar[i]? = some f → w9.ownsRow base 5 1 b f.b.length (Lib.byteCells f.b) := fun i b f hb hf => ownsRow_fr (h4 i b f hb hf) G9 (fun k hk e => by
      have := h7 b (List.mem_of_getElem? hb) k hk
      rcases e with e | e
      · exact this.1 e
      · exact this.2.2.1 e)
    have hbv9 := ownsRow_fr h1 G9 (fun k hk e => by
      rcases e with e | e
      · exact (h5 k hk).1 e
      · exact (h6 k e).2.1 hk)
    have hav9 := ownsRow_fr (ownsRow_fr HO7.out F8 (fun k hk e => hlt7 k hk e)) F9 (fun k hk e => hlt7 k hk e)
    have hbw2 : w.heap.size ≤ w0.heap.size := hbw
    go_end0
    refine ⟨rfl, ⟨.slice none 0 0, .slice a7 (ar.length + 1) c7, bvs ++ [.slice abv nbv cbv], B9, .inl h0, ⟨rfl, .inl ⟨rfl, rfl⟩⟩, by rw [List.length_append, List.length_append, h2]; rfl, ?_, fun i b f hb hf => ?_, (fun k hk => by cases hk), fun k hk => ⟨hlt7 k hk, by simp [Value.ownBlock], ?_⟩, fun b hb k hk => ?_, ?_⟩, (F0.mono (fun _ _ h => h.elim)).trans (G9.trans' (Fr.refl w9) (fun _ _ h => h) |>.mono (fun k _ hk => ?_))⟩
    · rw [List.length_append, List.zipWith_append h2.symm, List.flatten_append]
      have := hav9
      rw [HCL.out] at this
      simpa using this
    · rcases Nat.lt_or_ge i bvs.length with hi | hi
      · rw [List.getElem?_append_left hi] at hb
        rw [List.getElem?_append_left (by omega)] at hf
        exact hbl i b f hb hf
      · have hi2 : i = bvs.length := by
          have := (List.getElem?_eq_some_iff.1 hb).1
          simp at this
          omega
        subst hi2
        rw [List.getElem?_append_right (Nat.le_refl _)] at hb
        rw [List.getElem?_append_right (by omega)] at hf
        simp at hb
        simp [h2] at hf
        subst hb; subst hf
        exact hbv9
    · rcases hv k hk with h | h
      · exact .inl (h6 k h).2.2
      · exact .inr (by omega)
    · rcases List.mem_append.1 hb with hm | hm
      · have := h7 b hm k hk
        refine ⟨this.1, by simp [Value.ownBlock], fun e => ?_, .inl this.2.2.2⟩
        rcases hv k e with h | h
        · exact this.2.2.1 h
        · obtain ⟨i, hi⟩ := List.mem_iff_getElem?.1 hm
          have hil : i < ar.length := by have := (List.getElem?_eq_some_iff.1 hi).1; omega
          have := (h4 i b _ hi (List.getElem?_eq_getElem hil)).lt k hk
          omega
      · rw [List.mem_singleton.1 hm] at hk
        refine ⟨(h5 k hk).1, by simp [Value.ownBlock], fun e => ?_, .inl (h5 k hk).2⟩
        rcases hv k e with h | h
        · exact (h6 k h).2.1 hk
        · have := HBL.out k hk
          omega
    · rw [List.pairwise_append]
      refine ⟨H8.out, List.pairwise_singleton _ _, fun b hb b' hb' k hk => ?_⟩
      rw [List.mem_singleton.1 hb']
      exact (h7 b hb k hk).2.1
    · rcases hk with hk | hk
      · rw [hk]; exact h0
      · exact (h6 k hk).2.2
end Go.Proofs.YthamenngccaijaaGreatDoor

namespace Go.Proofs.YthamenngccaijaaGreatDoor
open Go Go.RowKit Go.Q
set_option linter.unusedSimpArgs false
set_option maxRecDepth 20000 in
theorem sheetOpen_any (sb base : Nat) (foot : Nat → Prop) (cur : Frm) (ar : List Frm) (T : Tag) (w : World) (h : SheetAt w base foot sb cur ar) (hb : base ≤ w.heap.size) (har : ar.length ≤ 1000) :
    Calls Tryz.prog 55 #[pt sb, tagV T] w fun e w' => e = .returned (.tuple #[]) ∧ SheetAt w' base (fun k => foot k ∨ w.heap.size ≤ k) sb ⟨T, false, []⟩ (ar ++ [cur]) ∧ Fr foot w w' := by
  have F0 : Fr (fun _ => False) w (w.alloc (.cells #[.int .i64 T.cls, .int .i64 T.num, .bool T.made] 97)) := (Fr.refl w).alloc _
  have BT := Blk.new w 97 #[.int .i64 T.cls, .int .i64 T.num, .bool T.made]
  have hs := F0.size
  have HO := Lib.hid (sheetOpen1_any sb base foot cur ar T false _ (h.old F0) (Nat.le_trans hb hs) har)
  have HF := Lib.hid F0
  obtain ⟨z, hz⟩ : ∃ z, z = w.heap.size := ⟨_, rfl⟩
  rw [← hz] at BT
  have HZ := Lib.hid hz
  have ST := BT.cell
  clear h F0 BT hz
  rw [show tagV T = .agg #[.int .i64 T.cls, .int .i64 T.num, .bool T.made] from rfl]
  go_enter Tryz.func55, Tryz.ntmps55
  go_upto_region 1 with fail
  rw [← HZ.out]
  generalize (w.alloc (.cells #[.int .i64 T.cls, .int .i64 T.num, .bool T.made] 97)) = w0 at *
  go_wp2_with fail
  refine HO.out.mono ?_
  rintro e w1 ⟨rfl, S1, F1⟩
  have HS := Lib.hid S1
  have HF1 := Lib.hid ((HF.out.mono (fun _ _ h => h.elim)).trans F1)
  clear S1 F1 HO
  go_wp2_with fail
  go_end0
  obtain ⟨bv, av, bvs, B, h0, h1, h2, h3, h4, h5, h6, h7, h8⟩ := HS.out
  have hw : ∀ k, (foot k ∨ w0.heap.size ≤ k) → (foot k ∨ w.heap.size ≤ k) := fun k hk => by
    rcases hk with h | h
    · exact .inl h
    · exact .inr (Nat.le_trans hs h)
  exact ⟨rfl, ⟨bv, av, bvs, B, hw _ h0, h1, h2, h3, h4, fun k hk => ⟨(h5 k hk).1, hw k (h5 k hk).2⟩, fun k hk => ⟨(h6 k hk).1, (h6 k hk).2.1, hw k (h6 k hk).2.2⟩, fun b hb k hk => ⟨(h7 b hb k hk).1, (h7 b hb k hk).2.1, (h7 b hb k hk).2.2.1, hw k (h7 b hb k hk).2.2.2⟩, h8⟩, HF1.out⟩
set_option maxRecDepth 20000 in
set_option maxHeartbeats 2000000 in
theorem frameWhole_any (sb base : Nat) (foot : Nat → Prop) (T : Tag) (l : List UInt8) (ar : List Frm) (w : World) (h : SheetAt w base foot sb ⟨T, false, l⟩ ar) (hT : tagGood T) (hl : l.length ≤ 16777216) :
    Calls Tryz.prog 108 #[pt sb] w fun e w' => (∃ a c, e = .returned (.tuple #[.slice a (wrapS T l).length c, .int .i64 0]) ∧ w'.ownsRow w.heap.size 5 1 (.slice a (wrapS T l).length c) (wrapS T l).length (Lib.byteCells (wrapS T l))) ∧ Fr (fun _ => False) w w' := by
  obtain ⟨bv, av, bvs, B, h0, h1, -⟩ := h
  have hv := (Vals.of_own h1).1
  simp only at hv
  obtain ⟨ab, cb, rfl, -⟩ := Vals.form hv
  have HV := Lib.hid hv
  have HS0 := Lib.hid B.cell
  have HSA := Lib.hid (B.alloc (.cells #[.slice ab l.length cb] 23)).cell
  have e3 := B.cell 3
  simp at e3
  have HW := Lib.hid (fun w' (F : Fr (fun _ => False) w w') (sl : Value) (hp : Parts w' sl [l]) => wrap_any T hT sl [l] w' hp (by simpa using hl) (by simp))
  rw [show ([l] : List (List UInt8)).flatten = l from by simp] at HW
  have hsl := B.lt
  have HB := Lib.hid B
  clear B hv h1 h0 hT
  obtain ⟨c, n, m⟩ := T
  go_enter Tryz.func108, Tryz.ntmps108
  go_upto_region 2 with fail
  have S0 := HS0.out
  have Sa := HSA.out
  simp only at S0 Sa
  obtain ⟨R, hR⟩ : ∃ R, R = wrapS ⟨c, n, m⟩ l := ⟨_, rfl⟩
  rw [← hR] at HW
  have HR := Lib.hid hR
  have HWC := Lib.hid (HW.out (w.alloc (.cells #[.slice ab l.length cb] 23)).drew ((Fr.refl w).alloc _).drew (.slice (some ⟨w.heap.size, 0, none⟩) 1 1) ((Parts.one HV.out).old (Fr.refl _).drew))
  have FA : Fr (fun _ => False) w (w.alloc (.cells #[.slice ab l.length cb] 23)).drew := ((Fr.refl w).alloc _).drew
  have HFA := Lib.hid FA
  clear hR HW HS0 HSA FA
  go_region_held3 (fun w' => ∀ i, w'.cell? ⟨sb, i, none⟩ = (#[.int .i64 c, .int .i64 n, .bool m, .bool false, .slice ab l.length cb, av, .int .i64 0] : Array Value)[i]?) (first | exact S0 | exact Sa | exact (fun i => (HB.out.fr (HFA.out.trans F2) (fun h => h)).cell i)) (first
    | (go_at_call 89; refine HWC.out.mono ?_; rintro e w2 ⟨v2, rfl, hown, F2⟩; obtain ⟨a2, m2, c2, rfl, rfl⟩ := own_shape hown))
  all_goals
    have HO := Lib.hid (own_le hown HFA.out.size)
    have HF2 := Lib.hid (HFA.out.trans F2)
    clear hown F2 HWC HFA S0 Sa
    go_wp2_with fail
    refine bodyPost_ret (v := .tuple #[.slice a2 R.length c2, .int .i64 0]) (by simp [results, Tryz.results108, go_sem]) rfl ⟨?_, HF2.out⟩
    rw [← HR.out]
    exact ⟨a2, c2, rfl, HO.out⟩
set_option maxRecDepth 20000 in
theorem sheetBytes_any (sb base : Nat) (foot : Nat → Prop) (cur : Frm) (w : World) (h : SheetAt w base foot sb cur []) (hl : cur.b.length ≤ 100000000) :
    Calls Tryz.prog 61 #[pt sb] w fun e w' => (∃ a c, e = .returned (.tuple #[.slice a cur.b.length c, .int .i64 0]) ∧ w'.ownsRow w.heap.size 5 1 (.slice a cur.b.length c) cur.b.length (Lib.byteCells cur.b)) ∧ Fr (fun _ => False) w w' := by
  obtain ⟨bv, av, bvs, B, h0, h1, h2, h3, -⟩ := h
  obtain ⟨aav, nav, cav, rfl, hnav⟩ := own_shape h3
  simp only [List.length_nil] at hnav
  subst hnav
  have hv := (Vals.of_own h1).1
  have HC := Lib.hid (cloneByte_any bv cur.b w hv (by omega))
  obtain ⟨ab, cb, rfl, -⟩ := Vals.form hv
  have e4 := B.cell 4
  have e5 := B.cell 5
  have e6 := B.cell 6
  simp at e4 e5 e6
  clear B hv h0 h1 h2 h3
  go_enter Tryz.func61, Tryz.ntmps61
  go_wp2_with fail
  refine HC.out.mono ?_
  rintro e w1 ⟨⟨u, rfl, hown⟩, F1⟩
  obtain ⟨a1, m1, c1, rfl, rfl⟩ := own_shape hown
  have HO := Lib.hid hown
  clear hown HC
  go_wp2_with fail
  exact bodyPost_ret (v := .tuple #[.slice a1 cur.b.length c1, .int .i64 0]) (by simp [results, Tryz.results61, go_sem]) rfl ⟨⟨a1, c1, rfl, HO.out⟩, F1⟩
end Go.Proofs.YthamenngccaijaaGreatDoor

namespace Go.Proofs.YthamenngccaijaaGreatDoor
open Go Go.RowKit Go.Q
set_option linter.unusedSimpArgs false
theorem own_front {w : World} {base n sz : Nat} {t : TypeId} {a : Option Addr} {m c : Nat} {xs : List Value} (h : w.ownsRow base t sz (.slice a m c) n xs) (k : Nat) (hk : k ≤ n) : w.ownsRow base t sz (.slice a k c) k (xs.take (k * sz)) := by
  obtain ⟨h1, h2⟩ := h
  refine ⟨by rw [List.length_take, h1]; exact Nat.min_eq_left (Nat.mul_le_mul_right sz hk), ?_⟩
  rcases h2 with ⟨he, h0⟩ | ⟨g, cap, cur, he, hg, hh, hnc, hcm, hcs, htk⟩
  · simp only [Value.slice.injEq] at he
    obtain ⟨rfl, rfl, rfl⟩ := he
    obtain rfl : k = 0 := by omega
    exact .inl ⟨rfl, rfl⟩
  · simp only [Value.slice.injEq] at he
    obtain ⟨rfl, rfl, rfl⟩ := he
    refine .inr ⟨g, _, cur, rfl, hg, hh, by omega, hcm, hcs, ?_⟩
    rw [← htk, List.take_take, Nat.min_eq_left (Nat.mul_le_mul_right sz hk)]
theorem zip_frm : ∀ (ar : List Frm) (bvs : List Value) (i : Nat) (f : Frm) (b : Value), ar[i]? = some f → bvs[i]? = some b → ∀ j u, (frmCells f b)[j]? = some u → (List.zipWith frmCells ar bvs).flatten[5 * i + j]? = some u
  | [], _, i, f, b, h, _, _, _, _ => by simp at h
  | _ :: _, [], i, f, b, _, h, _, _, _ => by simp at h
  | x :: ar, y :: bvs, 0, f, b, h1, h2, j, u, hu => by
    simp only [List.getElem?_cons_zero, Option.some.injEq] at h1 h2
    subst h1; subst h2
    simp only [List.zipWith_cons_cons, List.flatten_cons, Nat.mul_zero, Nat.zero_add]
    rw [List.getElem?_append_left (List.getElem?_eq_some_iff.1 hu).1]
    exact hu
  | x :: ar, y :: bvs, i + 1, f, b, h1, h2, j, u, hu => by
    simp only [List.getElem?_cons_succ] at h1 h2
    have := zip_frm ar bvs i f b h1 h2 j u hu
    simp only [List.zipWith_cons_cons, List.flatten_cons]
    rw [List.getElem?_append_right (by simp [frmCells]; omega), show 5 * (i + 1) + j - (frmCells x y).length = 5 * i + j from by simp [frmCells]; omega]
    exact this
theorem zip_take : ∀ (ar : List Frm) (bvs : List Value) (k : Nat), ((List.zipWith frmCells ar bvs).flatten).take (k * 5) = (List.zipWith frmCells (ar.take k) (bvs.take k)).flatten
  | [], _, k => by simp
  | _ :: _, [], k => by simp
  | x :: ar, y :: bvs, 0 => by simp
  | x :: ar, y :: bvs, k + 1 => by
    have := zip_take ar bvs k
    simp only [List.zipWith_cons_cons, List.flatten_cons, List.take_succ_cons]
    rw [List.take_append, List.take_of_length_le (by simp [frmCells]; omega), ← this]
    congr 2
    simp [frmCells]; omega
theorem SheetAt.wide {w : World} {base sb : Nat} {foot foot' : Nat → Prop} {cur : Frm} {ar : List Frm} (h : SheetAt w base foot sb cur ar) (hw : ∀ k, foot k → foot' k) : SheetAt w base foot' sb cur ar := by
  obtain ⟨bv, av, bvs, B, h0, h1, h2, h3, h4, h5, h6, h7, h8⟩ := h
  exact ⟨bv, av, bvs, B, hw _ h0, h1, h2, h3, h4, fun k hk => ⟨(h5 k hk).1, hw k (h5 k hk).2⟩, fun k hk => ⟨(h6 k hk).1, (h6 k hk).2.1, hw k (h6 k hk).2.2⟩, fun b hb k hk => ⟨(h7 b hb k hk).1, (h7 b hb k hk).2.1, (h7 b hb k hk).2.2.1, hw k (h7 b hb k hk).2.2.2⟩, h8⟩
theorem own_cell {w : World} {base n sz : Nat} {t : TypeId} {a : Option Addr} {m c : Nat} {xs : List Value} (h : w.ownsRow base t sz (.slice a m c) n xs) (h0 : 0 < n) : ∃ g, a = some ⟨g, 0, none⟩ ∧ ∀ i u, xs[i]? = some u → w.cell? ⟨g, i, none⟩ = some u := by
  obtain ⟨h1, h2⟩ := h
  rcases h2 with ⟨he, hn⟩ | ⟨g, cap, cur, he, hg, hh, hnc, hcm, hcs, htk⟩
  · omega
  · simp only [Value.slice.injEq] at he
    obtain ⟨rfl, rfl, rfl⟩ := he
    refine ⟨g, rfl, fun i u hu => ?_⟩
    have hil := (List.getElem?_eq_some_iff.1 hu).1
    rw [← htk, List.getElem?_take_of_lt (by omega)] at hu
    simp only [World.cell?, hh]
    simpa using hu
set_option maxRecDepth 20000 in
set_option maxHeartbeats 4000000 in
theorem sheetShut_any (sb base : Nat) (foot : Nat → Prop) (T : Tag) (l : List UInt8) (ar : List Frm) (top : Frm) (w : World) (h : SheetAt w base foot sb ⟨T, false, l⟩ (ar ++ [top])) (hT : tagGood T) (hl : l.length ≤ 16777216) (hb : base ≤ w.heap.size) (har : ar.length ≤ 1000) (htl : top.b.length + (wrapS T l).length ≤ 100000000) :
    Calls Tryz.prog 60 #[pt sb] w fun e w' => e = .returned (.tuple #[]) ∧ SheetAt w' base (fun k => foot k ∨ w.heap.size ≤ k) sb (top.more (wrapS T l)) ar ∧ Fr foot w w' := by
  have HW := Lib.hid (frameWhole_any sb base foot T l (ar ++ [top]) w h hT hl)
  have hlt := h.lt
  obtain ⟨bv, av, bvs, B, h0, h1, h2, h3, h4, h5, h6, h7, h8⟩ := h
  rw [List.length_append, List.length_singleton] at h2 h3
  obtain ⟨aav, nav, cav, rfl, rfl⟩ := own_shape h3
  obtain ⟨tb, htb⟩ : ∃ tb, bvs[ar.length]? = some tb := ⟨_, List.getElem?_eq_getElem (by omega)⟩
  have hat : (ar ++ [top])[ar.length]? = some top := by rw [List.getElem?_append_right (Nat.le_refl _)]; simp
  have htown := h4 _ _ _ htb hat
  obtain ⟨atb, ntb, ctb, rfl, hntb⟩ := own_shape htown
  subst hntb
  obtain ⟨R, hR⟩ : ∃ R, R = wrapS T l := ⟨_, rfl⟩
  rw [← hR] at HW htl ⊢
  have HR := Lib.hid hR
  clear hR
  have e5 := B.cell 5
  have e6 := B.cell 6
  simp at e5 e6
  have hw1 : IntKind.i64.wrap (((ar.length + 1 : Nat) : Int) - 1) = (ar.length : Int) := by simp [IntKind.wrap, IntKind.signed, IntKind.bits]; omega
  have q1 : ¬ (ar.length : Int) < 0 := by omega
  go_enter Tryz.func60, Tryz.ntmps60
  go_wp2_with fail
  refine (off_no sb w e6).mono ?_
  rintro e w0 ⟨rfl, rfl⟩
  go_upto_region 4 with fail
  go_wp2_with fail
  refine HW.out.mono ?_
  rintro e w1 ⟨⟨aR, cR, rfl, hown⟩, F1⟩
  have B1 := B.fr F1 (fun h => h)
  have g1 := ownsRow_fr h1 F1 (fun _ _ h => h)
  have g3 := ownsRow_fr h3 F1 (fun _ _ h => h)
  have gt := ownsRow_fr htown F1 (fun _ _ h => h)
  have c5 := B1.cell 5
  simp at c5
  obtain ⟨g, rfl, hgc⟩ := own_cell g3 (by omega)
  obtain ⟨hcv, hcm⟩ : ar.length + 1 ≤ cav ∧ cav ≤ maxLen := by
    rcases g3.2 with ⟨he, -⟩ | ⟨g', cap, cur, he, -, -, hnc, hcm, -⟩
    · simp at he
    · simp only [Value.slice.injEq] at he
      obtain ⟨-, -, rfl⟩ := he
      exact ⟨hnc, hcm⟩
  have hzf : ∀ j u, (frmCells top (.slice atb top.b.length ctb))[j]? = some u → w1.cell? ⟨g, ar.length * 5 + j, none⟩ = some u := fun j u hu => by
    rw [Nat.mul_comm]
    exact hgc _ _ (zip_frm _ _ _ _ _ hat htb j u hu)
  have k0 : w1.cell? ⟨g, ar.length * 5, none⟩ = _ := hzf 0 _ rfl
  have k1 := hzf 1 _ rfl
  have k2 := hzf 2 _ rfl
  have k3 := hzf 3 _ rfl
  have k4 := hzf 4 _ rfl
  have H := Lib.hid (And.intro h1 (And.intro h3 (And.intro h4 (And.intro h5 (And.intro h6 (And.intro h7 (And.intro h8 (And.intro hat (And.intro htb (And.intro htown (And.intro B (And.intro B1 (And.intro g1 (And.intro g3 (And.intro gt (And.intro hown (And.intro F1 (And.intro hgc (And.intro hT h0)))))))))))))))))))
  clear h1 h3 h4 h5 h6 h7 h8 hat htb htown B B1 g1 g3 gt hown F1 hgc hT h0 HW e5 e6 hzf
  have SB := H.out.2.2.2.2.2.2.2.2.2.2.2.1.cell
  have ZB := H.out.2.2.2.2.2.2.2.2.2.2.2.1.frozen
  go_upto_region 8 with fail
  obtain ⟨B2, F2⟩ := set5of7 H.out.2.2.2.2.2.2.2.2.2.2.2.1 (.int .i64 top.tag.cls) (.int .i64 top.tag.num) (.bool top.tag.made) (.bool top.set) (.slice atb top.b.length ctb)
  generalize (((((w1.setCell ⟨sb, 0, none⟩ (.int .i64 top.tag.cls)).setCell ⟨sb, 1, none⟩ (.int .i64 top.tag.num)).setCell ⟨sb, 2, none⟩ (.bool top.tag.made)).setCell ⟨sb, 3, none⟩ (.bool top.set)).setCell ⟨sb, 4, none⟩ (.slice atb top.b.length ctb)) = w2 at *
  have e5 := B2.cell 5
  simp at e5
  have ZB2 := B2.frozen
  have HB2 := Lib.hid B2
  have HF2 := Lib.hid F2
  clear k0 k1 k2 k3 k4 c5 SB ZB B2 F2
  have s0 : (0 : Int) ≤ (ar.length : Int) := by omega
  have s1 : (ar.length : Int) ≤ (cav : Int) := by omega
  go_upto_region 9 with fail
  obtain ⟨B3, F3⟩ := setAt5 HB2.out (.slice (some ⟨g, 0, none⟩) ar.length cav)
  generalize (w2.setCell ⟨sb, 5, none⟩ (.slice (some ⟨g, 0, none⟩) ar.length cav)) = w3 at *
  obtain ⟨h1, h3, h4, h5, h6, h7, h8, hat, htb, htown, B, B1, g1, g3, gt, hown, F1, hgc, hT, h0⟩ := H.out
  have G3 : Fr (fun k => k = sb) w w3 := (F1.mono (fun _ _ h => h.elim)).trans (HF2.out.trans F3)
  have F13 : Fr (fun k => k = sb) w1 w3 := HF2.out.trans F3
  have g33 := own_front (ownsRow_fr g3 F13 (fun k hk => (h6 k hk).1)) ar.length (by omega)
  rw [zip_take, List.take_left' rfl] at g33
  have hmt : ∀ i b, (bvs.take ar.length)[i]? = some b → bvs[i]? = some b ∧ i < ar.length := fun i b hi => by
    have := (List.getElem?_eq_some_iff.1 hi).1
    rw [List.length_take] at this
    have hil : i < ar.length := by omega
    rw [List.getElem?_take_of_lt hil] at hi
    exact ⟨hi, hil⟩
  have S3 : SheetAt w3 base foot sb top ar := by
    refine ⟨.slice atb top.b.length ctb, .slice (some ⟨g, 0, none⟩) ar.length cav, bvs.take ar.length, B3, h0, ownsRow_fr gt F13 (fun k hk => (h7 _ (List.mem_of_getElem? htb) k hk).1), by rw [List.length_take]; omega, g33, fun i b f hb hf => ?_, fun k hk => ?_, fun k hk => ?_, fun b hb k hk => ?_, ?_⟩
    · obtain ⟨hb', hil⟩ := hmt i b hb
      exact ownsRow_fr (h4 i b f hb' (by rw [List.getElem?_append_left hil]; exact hf)) G3 (fun k hk => (h7 b (List.mem_of_getElem? hb') k hk).1)
    · have := h7 _ (List.mem_of_getElem? htb) k hk
      exact ⟨this.1, this.2.2.2⟩
    · have hk' : (Value.slice (some ⟨g, 0, none⟩) (ar.length + 1) cav).ownBlock = some k := hk
      have := h6 k hk'
      exact ⟨this.1, fun e => (h7 _ (List.mem_of_getElem? htb) k e).2.2.1 hk', this.2.2⟩
    · obtain ⟨i, hi⟩ := List.mem_iff_getElem?.1 hb
      obtain ⟨hb', hil⟩ := hmt i b hi
      have := h7 b (List.mem_of_getElem? hb') k hk
      refine ⟨this.1, fun e => ?_, this.2.2.1, this.2.2.2⟩
      have hp := List.pairwise_iff_getElem.1 h8 i ar.length (List.getElem?_eq_some_iff.1 hb').1 (by omega) hil
      rw [(List.getElem?_eq_some_iff.1 hb').2, (List.getElem?_eq_some_iff.1 htb).2] at hp
      exact hp k hk e
    · exact h8.sublist (List.take_sublist _ _)
  have hs3 := G3.size
  have hs1 := F1.size
  have hR3 := (Vals.of_own (ownsRow_fr hown F13 (fun k hk e => by
    have := (hown.lt k hk).1
    omega))).1
  have HA := Lib.hid (sheetAdd_any sb base foot top ar (.slice aR R.length cR) R w3 S3 hR3 (by omega) htl)
  have HG := Lib.hid G3
  have HR0 := Lib.hid h0
  clear h1 h3 h4 h5 h6 h7 h8 hat htb htown B B1 g1 g3 gt hown F1 hgc hT h0 B3 F3 F13 g33 S3 hR3 G3 hmt H HB2 HF2 e5 ZB2
  go_wp2_with fail
  refine HA.out.mono ?_
  rintro e w4 ⟨rfl, S4, F4⟩
  go_wp2_with fail
  go_end0
  refine ⟨rfl, S4.wide (fun k hk => ?_), (HG.out.mono (fun k _ h => h ▸ HR0.out)).trans F4⟩
  rcases hk with h | h
  · exact .inl h
  · exact .inr (by omega)
end Go.Proofs.YthamenngccaijaaGreatDoor

namespace Go.Q
open Go Go.RowKit
def wholesN (n : List (List Part)) : List (List UInt8) := n.map fun r => rdnWhole ((rdnS r).getD [])
def nameWhole (n : List (List Part)) : List UInt8 := wrapS (tagOf 16) (wholesN n).flatten
end Go.Q
namespace Go.Proofs.YthamenngccaijaaGreatDoor
open Go Go.RowKit Go.Q
set_option linter.unusedSimpArgs false
theorem SheetAt.now {w : World} {base sb : Nat} {foot : Nat → Prop} {cur : Frm} {ar : List Frm} (h : SheetAt w base foot sb cur ar) : SheetAt w base (fun k => foot k ∧ k < w.heap.size) sb cur ar := by
  have hlt := h.lt
  obtain ⟨bv, av, bvs, B, h0, h1, h2, h3, h4, h5, h6, h7, h8⟩ := h
  refine ⟨bv, av, bvs, B, ⟨h0, hlt⟩, h1, h2, h3, h4, fun k hk => ⟨(h5 k hk).1, (h5 k hk).2, (h1.lt k hk).2⟩, fun k hk => ⟨(h6 k hk).1, (h6 k hk).2.1, (h6 k hk).2.2, (h3.lt k hk).2⟩, fun b hb k hk => ?_, h8⟩
  have := h7 b hb k hk
  refine ⟨this.1, this.2.1, this.2.2.1, this.2.2.2, ?_⟩
  obtain ⟨i, hi⟩ := List.mem_iff_getElem?.1 hb
  have hil : i < ar.length := by have := (List.getElem?_eq_some_iff.1 hi).1; omega
  exact ((h4 i b _ hi (List.getElem?_eq_getElem hil)).lt k hk).2
theorem parts_kept {w : World} {foot : Nat → Prop} {R : List UInt8} {a : Option Addr} {n c base : Nat} (ho : w.ownsRow base 5 1 (.slice a n c) n (Lib.byteCells R)) (hf : ∀ k, foot k → k < base) (hb : base ≤ w.heap.size) : Kept (fun W => Parts W (.slice (some ⟨w.heap.size, 0, none⟩) 1 1) [R]) foot (w.alloc (.cells #[.slice a n c] 23)) := fun W F => by
  have B := (Blk.new w 23 #[.slice a n c]).fr F (fun h => by have := hf _ h; omega)
  have ho2 := ownsRow_fr (ownsRow_fr ho ((Fr.refl w).alloc _) (fun _ _ h => h)) F (fun k hk h => by have := hf _ h; have := (ho.lt k hk).1; omega)
  refine ⟨[.slice a n c], Vals.of_block B (by show 1 ≤ maxLen; decide), rfl, fun i u l hu hl => ?_⟩
  cases i with
  | zero =>
    simp only [List.getElem?_cons_zero, Option.some.injEq] at hu hl
    subst hu; subst hl
    exact (Vals.of_own ho2).1
  | succ i => simp at hu
set_option maxRecDepth 20000 in
set_option maxHeartbeats 4000000 in
theorem nameWrite_ok (v : Value) (n : List (List Part)) (w : World) (h : NameAt w v n) (hf : ∀ r ∈ n, fewB r) (hok : nameOk n = true) (hs : (wholesN n).flatten.length ≤ 16777216) :
    Calls Tryz.prog 11 #[v] w fun e w' => (∃ a c, e = .returned (.tuple #[.slice a (nameWhole n).length c, .int .i64 0]) ∧ w'.ownsRow w.heap.size 5 1 (.slice a (nameWhole n).length c) (nameWhole n).length (Lib.byteCells (nameWhole n))) ∧ Fr (fun _ => False) w w' := by
  have H := Lib.hid h
  have HRI := right_any v n w h hf
  rw [hok] at HRI
  obtain ⟨hn64, hrd⟩ := name_rdns hok
  have HRD := Lib.hid hrd
  have HS := Lib.hid hs
  obtain ⟨a, cap, rfl, hc, hm, -⟩ := h
  clear hok hrd hs
  go_enter Tryz.func11, Tryz.ntmps11
  go_wp2_with fail
  refine HRI.mono ?_
  rintro e w0 ⟨rfl, F0⟩
  have HF0 := Lib.hid F0
  clear F0 HRI
  go_wp2_with fail
  refine (sheetNew_any w0).mono ?_
  rintro e w1 ⟨rfl, S1, F1⟩
  have HS1 := Lib.hid S1
  have HF1 := Lib.hid F1
  clear S1 F1
  go_wp2_with fail
  refine (headOf_any 16 w1).mono ?_
  rintro e w2 ⟨rfl, F2⟩
  have HS2 := Lib.hid (HS1.out.old F2)
  have HF2 := Lib.hid (HF1.out.trans F2)
  have hz2 := HS2.out.lt
  have HO := Lib.hid (sheetOpen_any w0.heap.size w0.heap.size _ _ _ (tagOf 16) w2 HS2.out (by omega) (by simp))
  clear F2 HS1 HF1 HS2
  go_wp2_with fail
  refine HO.out.mono ?_
  rintro e w3 ⟨rfl, S3, F3⟩
  have HS3 := Lib.hid S3.now
  have HF3 := Lib.hid (HF2.out.trans' F3 (fun k hk e => by omega))
  clear S3 F3 HF2 HO
  go_wp2_with fail
  go_loopg [18] n.length (fun g ii wr => ∃ j : Nat, g = n.length - j ∧ j ≤ n.length ∧ ii = .int .i64 j ∧ SheetAt wr w0.heap.size (fun k => w0.heap.size ≤ k ∧ k < wr.heap.size) w0.heap.size ⟨tagOf 16, false, ((wholesN n).take j).flatten⟩ [⟨⟨0, 0, false⟩, false, []⟩] ∧ Fr (fun _ => False) w0 wr)
  case atStart =>
    exact ⟨0, rfl, Nat.zero_le _, rfl, HS3.out.wide (fun k hk => ⟨by rcases hk.1 with h | h <;> omega, hk.2⟩), HF3.out⟩
  case round =>
    obtain ⟨j, hg, hj, rfl, hS, F⟩ := hrel
    have HG := Lib.hid hg
    have HSj := Lib.hid hS
    have HF := Lib.hid F
    have HFF := Lib.hid (HF0.out.trans F)
    clear hg hS HS3 HF3
    by_cases hjl : j < n.length
    · obtain ⟨a0, cap0, he, _, _, hx⟩ := H.out.old HFF.out
      simp only [Value.slice.injEq, true_and] at he
      obtain ⟨rfl, rfl⟩ := he
      obtain ⟨b, off, rfl, hy⟩ := hx (by omega)
      obtain ⟨r, hr⟩ : ∃ r, n[j]? = some r := ⟨_, List.getElem?_eq_getElem hjl⟩
      obtain ⟨x, e1, hA⟩ := hy j r hr
      have hmem := List.mem_of_getElem? hr
      obtain ⟨ws, hws⟩ := Option.isSome_iff_exists.1 (HRD.out r hmem)
      have hwl : (wholesN n)[j]? = some (rdnWhole ws) := by
        unfold wholesN
        rw [List.getElem?_map, hr]
        simp [hws]
      have hft := flat_take hwl
      have hfl := flat_le (wholesN n) (j + 1)
      rw [hft, List.length_append] at hfl
      have hle := HS.out
      have hwr : ws.flatten.length ≤ (rdnWhole ws).length := by
        unfold rdnWhole
        rw [wrap_len]
        omega
      have HW := writeRdn_any x r wr hA (hf r hmem) (fun ws' h' => by rw [hws] at h'; cases h'; omega)
      rw [hws] at HW
      have HWR := Lib.hid HW
      have HFT := Lib.hid hft
      have r1 : (0 : Int) ≤ (j : Int) := by omega
      have r2 : (j : Int) < (n.length : Int) := by omega
      obtain ⟨R, hR⟩ : ∃ R, R = rdnWhole ws := ⟨_, rfl⟩
      rw [← hR] at hfl
      have HR := Lib.hid hR
      clear hx hy hr hA hmem hws hwl hft hwr F HW hR
      go_wp2_with fail
      refine HWR.out.mono ?_
      rintro e w4 ⟨hres, F4⟩
      unfold writeRdnOut at hres
      simp only at hres
      rw [← HR.out] at hres
      obtain ⟨aR, cR, rfl, hown⟩ := hres
      have HS4 := Lib.hid (HSj.out.old F4)
      have HF4 := Lib.hid F4
      have HOW := Lib.hid hown
      clear HWR F4 hown
      go_wp2_with fail
      refine (sheetFail_no _ _ _ _ _ w4 HS4.out).mono ?_
      rintro e w5 ⟨rfl, S5, F5⟩
      have HS5 := Lib.hid S5
      have HF5 := Lib.hid F5
      clear S5 F5 HS4
      have hown5 := ownsRow_fr HOW.out HF5.out (fun k hk e => by
        have := (HOW.out.lt k hk).1
        omega)
      have hz4 := HF4.out.size
      have hz5 := HF5.out.size
      have hz0 := HF.out.size
      have FA : Fr (fun _ => False) w5 (w5.alloc (.cells #[.slice aR R.length cR] 23)) := (Fr.refl w5).alloc _
      have hzA := FA.size
      have HP := Lib.hid (sheetPut_any w0.heap.size w0.heap.size _ _ _ _ [R] _ (HS5.out.old FA) (parts_kept hown5 (fun k hk => hk.2) (by omega)) (by omega) (by
        show ((wholesN n).take j).flatten.length + [R].flatten.length ≤ 100000000
        simp only [List.flatten_cons, List.flatten_nil, List.append_nil]
        omega) (by simp))
      have G5 := Lib.hid ((HF4.out.mono (T := fun k => w0.heap.size ≤ k) (fun _ _ h => h.elim)).trans ((HF5.out.mono (fun _ _ h => h.1)).trans (FA.mono (fun _ _ h => h.elim))))
      clear hown5 FA HS5 HF4 HF5 HOW
      go_wp2_with fail
      refine HP.out.mono ?_
      rintro e w6 ⟨rfl, S6, F6⟩
      have HS6 := Lib.hid (S6.now.wide (foot' := fun k => w0.heap.size ≤ k ∧ k < w6.heap.size) (fun k hk => ⟨by rcases hk.1 with h | h <;> omega, hk.2⟩))
      have HF6 := Lib.hid (HF.out.trans' (G5.out.trans (F6.mono (fun _ _ h => h.1))) (fun k hk e => by omega))
      clear S6 F6 G5 HP HF HFF
      go_wp2_with fail
      go_roundg (n.length - (j + 1))
      case measure => rw [HG.out]; omega
      case rel =>
        refine ⟨j + 1, rfl, by omega, by go_num, ?_, HF6.out⟩
        have := HS6.out
        rw [HFT.out, ← HR.out]
        simpa [Frm.more] using this
    · obtain rfl : j = n.length := by omega
      have q1 : ¬ (n.length : Int) < (n.length : Int) := by omega
      have hS := HSj.out
      rw [show (wholesN n).take n.length = wholesN n from List.take_of_length_le (by simp [wholesN])] at hS
      have hsl := hS.lt
      have hz0 := HF0.out.size
      have hsn := HS.out
      have hll := len_small (wholesN n).flatten.length hsn
      have hwl : (nameWhole n).length ≤ 20000000 := by
        unfold nameWhole
        rw [wrap_len]
        omega
      have HSH := Lib.hid (sheetShut_any w0.heap.size w0.heap.size _ (tagOf 16) (wholesN n).flatten [] ⟨⟨0, 0, false⟩, false, []⟩ wr hS ⟨by decide, by decide⟩ hsn (by omega) (by simp) (by
        show ([] : List UInt8).length + (nameWhole n).length ≤ 100000000
        simp only [List.length_nil]
        omega))
      clear hS
      go_wp2_with fail
      refine HSH.out.mono ?_
      rintro e w4 ⟨rfl, S4, F4⟩
      obtain ⟨R, hR⟩ : ∃ R, R = nameWhole n := ⟨_, rfl⟩
      have HB := Lib.hid (sheetBytes_any w0.heap.size w0.heap.size _ _ w4 S4 (by
        show ([] ++ nameWhole n).length ≤ 100000000
        simp only [List.nil_append]
        omega))
      rw [show (Frm.more ⟨⟨0, 0, false⟩, false, []⟩ (wrapS (tagOf 16) (wholesN n).flatten)).b = R from by rw [hR]; rfl] at HB
      have HR := Lib.hid hR
      have HF4 := Lib.hid (HFF.out.trans' F4 (fun k hk e => by omega))
      clear S4 F4 HSH hR
      go_wp2_with fail
      refine HB.out.mono ?_
      rintro e w5 ⟨⟨aR, cR, rfl, hown⟩, F5⟩
      have HOW := Lib.hid (own_le hown HF4.out.size)
      have HF5 := Lib.hid (HF4.out.trans F5)
      clear hown F5 HB
      go_wp2_with fail
      refine bodyPost_ret (v := .tuple #[.slice aR R.length cR, .int .i64 0]) (by simp [results, Tryz.results11, go_sem]) rfl ⟨⟨aR, cR, ?_, ?_⟩, HF5.out⟩
      · rw [HR.out]
      · rw [← HR.out]
        exact HOW.out
end Go.Proofs.YthamenngccaijaaGreatDoor

namespace Go.Q
open Go Go.RowKit
open Go.Proofs.YthamenngccaijaaGreatDoor
theorem steps_get : ∀ (l : List Part) (last : Option (List UInt8)) (ws : List (List UInt8)), stepsS last l = some ws → ∀ (j : Nat) (p : Part), l[j]? = some p → ∃ x, ws[j]? = some x ∧ attrS p.o p.b = some x
  | [], _, _, _, j, p, hp => by simp at hp
  | q :: t, last, ws, h, j, p, hp => by
    obtain ⟨x, ws', h1, h2, rfl, -⟩ := steps_in h
    cases j with
    | zero =>
      simp only [List.getElem?_cons_zero, Option.some.injEq] at hp
      subst hp
      exact ⟨x, rfl, h1⟩
    | succ j =>
      simp only [List.getElem?_cons_succ] at hp
      obtain ⟨y, h3, h4⟩ := steps_get t _ _ h2 j p hp
      exact ⟨y, by simpa using h3, h4⟩
theorem rdn_get {l : List Part} {ws : List (List UInt8)} (h : rdnS l = some ws) : ws.length = l.length ∧ l.length ≤ 16 ∧ ∀ (j : Nat) (p : Part), l[j]? = some p → ∃ x, ws[j]? = some x ∧ attrS p.o p.b = some x := by
  unfold rdnS at h
  split at h
  · cases h
  · rename_i hl
    exact ⟨(steps_up l none ws h).2.2, by omega, steps_get l none ws h⟩
theorem attr_room {o : List Int} {b x : List UInt8} (h : attrS o b = some x) : x.length ≤ 306 + b.length := by
  unfold attrS at h
  split at h
  · rename_i h0
    simp only [Bool.and_eq_true] at h0
    simp only [Option.some.injEq] at h
    subst h
    have h1 := oidWhole_len (nums_ok h0.1).2.1
    have h2 : (lenBytes (oidWhole o ++ b).length).length ≤ 5 := by unfold lenBytes; (repeat' split) <;> simp
    rw [wrap_len, List.length_append] at *
    omega
  · cases h
theorem flat_room {m : Nat} : ∀ {ls : List (List UInt8)}, (∀ l ∈ ls, l.length ≤ m) → ls.flatten.length ≤ ls.length * m
  | [], _ => by simp
  | x :: t, h => by
    have h1 := h x (List.mem_cons_self ..)
    have h2 := flat_room (m := m) (ls := t) (fun l hl => h l (List.mem_cons_of_mem _ hl))
    rw [List.flatten_cons, List.length_append, List.length_cons, Nat.add_mul]
    omega
theorem rdn_room {l : List Part} {ws : List (List UInt8)} (h : rdnS l = some ws) (hb : ∀ p ∈ l, p.b.length ≤ 200) : ws.flatten.length ≤ 8096 ∧ (rdnWhole ws).length ≤ 8102 := by
  obtain ⟨h1, h2, h3⟩ := rdn_get h
  have h4 : ∀ x ∈ ws, x.length ≤ 506 := fun x hx => by
    obtain ⟨i, hi⟩ := List.mem_iff_getElem?.1 hx
    have hil : i < l.length := by have := (List.getElem?_eq_some_iff.1 hi).1; omega
    obtain ⟨y, hy, ha⟩ := h3 i _ (List.getElem?_eq_getElem hil)
    rw [hi] at hy
    simp only [Option.some.injEq] at hy
    subst hy
    have := attr_room ha
    have := hb _ (List.getElem_mem hil)
    omega
  have h5 := flat_room h4
  have h6 : ws.length * 506 ≤ 16 * 506 := Nat.mul_le_mul_right _ (by omega)
  have h7 : ws.flatten.length ≤ 8096 := by omega
  refine ⟨h7, ?_⟩
  have h8 := len_small ws.flatten.length (by omega)
  unfold rdnWhole
  rw [wrap_len]
  omega
end Go.Q
namespace Go.Proofs.YthamenngccaijaaGreatDoor
open Go Go.RowKit Go.Q
set_option linter.unusedSimpArgs false
set_option maxRecDepth 20000 in
set_option maxHeartbeats 2000000 in
theorem r14WriteStep_any (v : Value) (l : List Part) (ws : List (List UInt8)) (w : World) (h : Attrs w v l) (hf : fewB l) (hws : rdnS l = some ws) (hs : ws.flatten.length ≤ 16777216) :
    Calls Tryz.prog 142 #[v] w fun e w' => (∃ a c, e = .returned (.slice a (rdnWhole ws).length c) ∧ w'.ownsRow w.heap.size 5 1 (.slice a (rdnWhole ws).length c) (rdnWhole ws).length (Lib.byteCells (rdnWhole ws))) ∧ Fr (fun _ => False) w w' := by
  have H := Lib.hid h
  obtain ⟨hwl, hl16, hget⟩ := rdn_get hws
  have HGET := Lib.hid hget
  have HFL := Lib.hid (fun j => flat_le ws j)
  obtain ⟨a, cap, rfl, hc, hm, -⟩ := h
  clear hws hget
  go_enter Tryz.func142, Tryz.ntmps142
  go_wp2_with fail
  go_loopg [3, 4] l.length (fun g u i wr => ∃ j : Nat, g = l.length - j ∧ j ≤ l.length ∧ i = .int .i64 j ∧ wr.ownsRow w.heap.size 5 1 u (ws.take j).flatten.length (Lib.byteCells (ws.take j).flatten) ∧ Fr (fun _ => False) w wr)
  case atStart => exact ⟨0, rfl, Nat.zero_le _, rfl, ⟨rfl, .inl ⟨rfl, rfl⟩⟩, Fr.refl _⟩
  case round =>
    obtain ⟨j, hg, hj, rfl, hown, F⟩ := hrel
    have HG := Lib.hid hg
    have HF := Lib.hid F
    have HOW := Lib.hid hown
    obtain ⟨au, mu, cu, rfl, rfl⟩ := own_shape hown
    clear hg hown
    by_cases hjl : j < l.length
    · obtain ⟨a0, cap0, he, _, _, hx⟩ := H.out.old F
      simp only [Value.slice.injEq, true_and] at he
      obtain ⟨rfl, rfl⟩ := he
      obtain ⟨b, off, rfl, hy⟩ := hx (by omega)
      obtain ⟨p, hp⟩ : ∃ p, l[j]? = some p := ⟨_, List.getElem?_eq_getElem hjl⟩
      obtain ⟨x, y, e1, e2, hpx, hpy⟩ := hy j p hp
      obtain ⟨k, hk, hak⟩ := HGET.out j p hp
      have hft := flat_take hk
      have hfl := HFL.out (j + 1)
      rw [hft, List.length_append] at hfl
      have hpb := hf p (List.mem_of_getElem? hp)
      obtain ⟨ax, cx, rfl, -⟩ := Ints.form hpx
      obtain ⟨ay, cy, rfl, -⟩ := Vals.form hpy
      have HW0 := r14Whole_any _ _ p.o p.b wr hpx hpy hpb
      unfold rWholeOut at HW0
      rw [hak] at HW0
      simp only at HW0
      have HW := Lib.hid HW0
      have e1' : wr.cell? ⟨b, off + j * 2, none⟩ = some (.slice ax p.o.length cx) := by rw [Nat.mul_comm]; exact e1
      have e2' : wr.cell? ⟨b, off + j * 2 + 1, none⟩ = some (.slice ay p.b.length cy) := by rw [Nat.mul_comm]; exact e2
      have HFT := Lib.hid hft
      have r1 : (0 : Int) ≤ (j : Int) := by omega
      have r2 : (j : Int) < (l.length : Int) := by omega
      clear hx hy hp hpx hpy F e1 e2 hk hak hft HW0
      generalize (ws.take j).flatten = A at *
      go_wp2_with fail
      refine HW.out.mono ?_
      rintro e w2 ⟨⟨vk, rfl, ho2⟩, F2⟩
      obtain ⟨a2, m2, c2, rfl, rfl⟩ := own_shape ho2
      have hz1 := HF.out.size
      have hbk := (Vals.of_own HOW.out).2
      obtain ⟨v', w4, hrun, ho4, F4, _⟩ := append_bytes (ownsRow_fr HOW.out F2 (fun _ _ h => h)) a2 k.length c2 k (Vals.of_own ho2).1 (by omega) (Nat.le_trans hz1 F2.size)
      have HRUN := Lib.hid hrun
      have HO4 := Lib.hid ho4
      have HF4 := Lib.hid ((HF.out.trans F2).trans' F4 (fun i hi e => by have := (hbk i e).1; omega))
      clear e1' e2' HF HW F2 ho2 hrun ho4 F4 hbk HOW
      go_wp2_with (at_builtin; refine wpList_append_run (by rfl) (.tmp 21) (.tmp 22) 23 (by rfl) _ w4 (by exact HRUN.out) ?_)
      go_roundg (l.length - (j + 1))
      case measure => rw [HG.out]; omega
      case rel => exact ⟨j + 1, rfl, by omega, by go_num, by rw [HFT.out, List.length_append]; exact HO4.out, HF4.out⟩
    · obtain rfl : j = l.length := by omega
      have hT : ws.take l.length = ws := List.take_of_length_le (by omega)
      have hown := HOW.out
      rw [hT] at hown ⊢
      have HW := Lib.hid (fun w' (F : Fr (fun _ => False) wr w') => r02Wrap_any (tagOf 17) ⟨by decide, by decide⟩ _ ws.flatten w' ((Vals.of_own hown).1.old F) hs)
      have HR := Lib.hid (show rdnWhole ws = wrapS (tagOf 17) ws.flatten from rfl)
      clear hown HOW hT hs HFL HGET
      generalize ws.flatten = A at *
      go_wp2_with fail
      refine (r02Of_any 17 wr).mono ?_
      rintro e w2 ⟨rfl, F2⟩
      have HW3 := Lib.hid (HW.out w2 F2)
      have HF2 := Lib.hid (F.trans F2)
      clear HW F2 F
      go_wp2_with fail
      refine HW3.out.mono ?_
      rintro e w3 ⟨v3, rfl, ho3, F3⟩
      obtain ⟨a3, m3, c3, rfl, rfl⟩ := own_shape ho3
      have HO3 := Lib.hid (own_le ho3 HF2.out.size)
      have HF3 := Lib.hid (HF2.out.trans F3)
      clear ho3 F3 HW3
      go_wp2_with fail
      go_ret
      rw [HR.out]
      exact ⟨⟨a3, c3, rfl, HO3.out⟩, HF3.out⟩
set_option maxRecDepth 20000 in
set_option maxHeartbeats 2000000 in
theorem r14Write_any (v : Value) (n : List (List Part)) (w : World) (h : NameAt w v n) (hf : ∀ r ∈ n, fewB r) (hok : nameOk n = true) (hs : (wholesN n).flatten.length ≤ 16777216) :
    Calls Tryz.prog 94 #[v] w fun e w' => (∃ a c, e = .returned (.slice a (nameWhole n).length c) ∧ w'.ownsRow w.heap.size 5 1 (.slice a (nameWhole n).length c) (nameWhole n).length (Lib.byteCells (nameWhole n))) ∧ Fr (fun _ => False) w w' := by
  have H := Lib.hid h
  obtain ⟨hn64, hrd⟩ := name_rdns hok
  have HRD := Lib.hid hrd
  have HFL := Lib.hid (fun j => flat_le (wholesN n) j)
  obtain ⟨a, cap, rfl, hc, hm, -⟩ := h
  clear hok hrd
  go_enter Tryz.func94, Tryz.ntmps94
  go_wp2_with fail
  go_loopg [3, 4] n.length (fun g u i wr => ∃ j : Nat, g = n.length - j ∧ j ≤ n.length ∧ i = .int .i64 j ∧ wr.ownsRow w.heap.size 5 1 u ((wholesN n).take j).flatten.length (Lib.byteCells ((wholesN n).take j).flatten) ∧ Fr (fun _ => False) w wr)
  case atStart => exact ⟨0, rfl, Nat.zero_le _, rfl, ⟨rfl, .inl ⟨rfl, rfl⟩⟩, Fr.refl _⟩
  case round =>
    obtain ⟨j, hg, hj, rfl, hown, F⟩ := hrel
    have HG := Lib.hid hg
    have HF := Lib.hid F
    have HOW := Lib.hid hown
    obtain ⟨au, mu, cu, rfl, rfl⟩ := own_shape hown
    clear hg hown
    by_cases hjl : j < n.length
    · obtain ⟨a0, cap0, he, _, _, hx⟩ := H.out.old F
      simp only [Value.slice.injEq, true_and] at he
      obtain ⟨rfl, rfl⟩ := he
      obtain ⟨b, off, rfl, hy⟩ := hx (by omega)
      obtain ⟨r, hr⟩ : ∃ r, n[j]? = some r := ⟨_, List.getElem?_eq_getElem hjl⟩
      obtain ⟨x, e1, hA⟩ := hy j r hr
      have hmem := List.mem_of_getElem? hr
      obtain ⟨ws, hws⟩ := Option.isSome_iff_exists.1 (HRD.out r hmem)
      have hk : (wholesN n)[j]? = some (rdnWhole ws) := by
        unfold wholesN
        rw [List.getElem?_map, hr]
        simp [hws]
      have hft := flat_take hk
      have hfl := HFL.out (j + 1)
      rw [hft, List.length_append] at hfl
      have hwr : ws.flatten.length ≤ (rdnWhole ws).length := by
        unfold rdnWhole
        rw [wrap_len]
        omega
      have HW := Lib.hid (r14WriteStep_any x r ws wr hA (hf r hmem) hws (by omega))
      have HFT := Lib.hid hft
      have r1 : (0 : Int) ≤ (j : Int) := by omega
      have r2 : (j : Int) < (n.length : Int) := by omega
      clear hx hy hr hA F hk hft hws hwr
      generalize rdnWhole ws = k at *
      generalize ((wholesN n).take j).flatten = A at *
      go_wp2_with fail
      refine HW.out.mono ?_
      rintro e w2 ⟨⟨a2, c2, rfl, ho2⟩, F2⟩
      have hz1 := HF.out.size
      have hbk := (Vals.of_own HOW.out).2
      obtain ⟨v', w4, hrun, ho4, F4, _⟩ := append_bytes (ownsRow_fr HOW.out F2 (fun _ _ h => h)) a2 k.length c2 k (Vals.of_own ho2).1 (by omega) (Nat.le_trans hz1 F2.size)
      have HRUN := Lib.hid hrun
      have HO4 := Lib.hid ho4
      have HF4 := Lib.hid ((HF.out.trans F2).trans' F4 (fun i hi e => by have := (hbk i e).1; omega))
      clear e1 HF HW F2 ho2 hrun ho4 F4 hbk HOW
      go_wp2_with (at_builtin; refine wpList_append_run (by rfl) (.tmp 11) (.tmp 16) 23 (by rfl) _ w4 (by exact HRUN.out) ?_)
      go_roundg (n.length - (j + 1))
      case measure => rw [HG.out]; omega
      case rel => exact ⟨j + 1, rfl, by omega, by go_num, by rw [HFT.out, List.length_append]; exact HO4.out, HF4.out⟩
    · obtain rfl : j = n.length := by omega
      have hT : (wholesN n).take n.length = wholesN n := List.take_of_length_le (by simp [wholesN])
      have hown := HOW.out
      rw [hT] at hown ⊢
      have HW := Lib.hid (fun w' (F : Fr (fun _ => False) wr w') => r02Wrap_any (tagOf 16) ⟨by decide, by decide⟩ _ (wholesN n).flatten w' ((Vals.of_own hown).1.old F) hs)
      have HR := Lib.hid (show nameWhole n = wrapS (tagOf 16) (wholesN n).flatten from rfl)
      clear hown HOW hT hs HFL
      generalize (wholesN n).flatten = A at *
      go_wp2_with fail
      refine (r02Of_any 16 wr).mono ?_
      rintro e w2 ⟨rfl, F2⟩
      have HW3 := Lib.hid (HW.out w2 F2)
      have HF2 := Lib.hid (F.trans F2)
      clear HW F2 F
      go_wp2_with fail
      refine HW3.out.mono ?_
      rintro e w3 ⟨v3, rfl, ho3, F3⟩
      obtain ⟨a3, m3, c3, rfl, rfl⟩ := own_shape ho3
      have HO3 := Lib.hid (own_le ho3 HF2.out.size)
      have HF3 := Lib.hid (HF2.out.trans F3)
      clear ho3 F3 HW3
      go_wp2_with fail
      go_ret
      rw [HR.out]
      exact ⟨⟨a3, c3, rfl, HO3.out⟩, HF3.out⟩
end Go.Proofs.YthamenngccaijaaGreatDoor

namespace Go.Q
open Go
theorem num_up : ∀ (f q : Nat) (rest : List UInt8), q < 128 ^ f → q ≤ 16777216 → numberS 0 0 ((up7 f q).reverse ++ rest) = numberS (up7 f q).length q rest
  | 0, q, rest, h, _ => by
    obtain rfl : q = 0 := by simpa using h
    rfl
  | f + 1, q, rest, h, hq => by
    rw [up7]
    by_cases h0 : q = 0
    · subst h0
      rw [if_pos rfl]
      rfl
    · rw [if_neg h0, List.reverse_cons, List.append_assoc, List.length_cons]
      have hd : q / 128 < 128 ^ f := by
        rw [Nat.pow_succ] at h
        exact Nat.div_lt_of_lt_mul (by omega)
      rw [num_up f (q / 128) _ hd (by omega)]
      have e := u8' (q % 128 + 128) (by omega)
      have hz : ¬ ((up7 f (q / 128)).length = 0 ∧ q % 128 + 128 = 128) := by
        rintro ⟨h1, h2⟩
        have h3 : q / 128 ≠ 0 := by omega
        cases f with
        | zero => simp at hd; omega
        | succ f => rw [up7, if_neg h3] at h1; simp at h1
      show numberS _ _ (UInt8.ofNat (q % 128 + 128) :: rest) = _
      rw [numberS, e, if_neg hz, if_neg (by omega), if_neg (by omega)]
      congr 1
      omega
theorem num_fwd {m : Nat} (h : m ≤ 2147483647) (rest : List UInt8) : numberS 0 0 (base128 m ++ rest) = .ok (m, (base128 m).length) := by
  unfold base128
  rw [List.reverse_cons, List.append_assoc, num_up 5 (m / 128) _ (by omega) (by omega), List.length_append, List.length_reverse]
  have e := u8' (m % 128) (by omega)
  show numberS _ _ (UInt8.ofNat (m % 128) :: rest) = _
  rw [numberS, e, if_neg (by omega), if_neg (by omega), if_pos (by omega)]
  simp only [List.length_singleton, Except.ok.injEq, Prod.mk.injEq, and_true]
  omega
theorem base_ne (m : Nat) : base128 m ≠ [] := by simp [base128]
theorem oidSt_fwd {o : List Int} (ho : o.length ≠ 32) {m : Nat} (h : m ≤ 2147483647) (rest : List UInt8) : oidStS o 0 0 (base128 m ++ rest) = oidStS (addS o m) 0 0 rest := by
  rw [oidSt_num o _ 0 0 (.inr (by simp [base_ne])), num_fwd h]
  simp only
  rw [if_neg ho, Nat.sub_zero, List.drop_left]
theorem oidSt_all : ∀ (r o : List Int), o ≠ [] → (∀ n ∈ r, arcOk n = true) → o.length + r.length ≤ 32 → oidStS o 0 0 (r.flatMap fun n => base128 n.toNat) = .ok (o ++ r)
  | [], o, _, _, _ => by simp [oidStS]
  | n :: t, o, h0, hr, hl => by
    have hn := hr n (List.mem_cons_self ..)
    unfold arcOk at hn
    simp only [decide_eq_true_eq] at hn
    simp only [List.length_cons] at hl
    rw [List.flatMap_cons, oidSt_fwd (by omega) (by omega)]
    have ha : addS o n.toNat = o ++ [n] := by
      unfold addS
      rw [if_neg h0]
      congr 2
      omega
    rw [ha, oidSt_all t _ (by simp) (fun m hm => hr m (List.mem_cons_of_mem _ hm)) (by simp; omega)]
    simp
theorem oidParse_fwd {o : List Int} (h : oidOk o = true) : oidParseS (oidBytes o) = .ok o := by
  have h' := h
  unfold oidOk at h
  simp only [Bool.and_eq_true, decide_eq_true_eq] at h
  obtain ⟨⟨⟨g1, g2⟩, g3⟩, g4⟩ := h
  obtain ⟨a, b, r, rfl⟩ : ∃ a b r, o = a :: b :: r := by
    match o, g1 with
    | a :: b :: r, _ => exact ⟨a, b, r, rfl⟩
    | [a], g1 => simp at g1
    | [], g1 => simp at g1
  rw [List.all_eq_true] at g3
  have ha := g3 a (by simp)
  have hb := g3 b (by simp)
  unfold arcOk at ha hb
  simp only [decide_eq_true_eq] at ha hb
  simp only [List.getD_cons_zero, List.getD_cons_succ, twoOk, Bool.or_eq_true, Bool.and_eq_true, decide_eq_true_eq] at g4
  simp only [List.length_cons] at g2
  have he : oidBytes (a :: b :: r) = base128 (40 * a + b).toNat ++ r.flatMap fun n => base128 n.toNat := by
    simp only [oidBytes, Go.Proofs.YthamenngccaijaaGreatDoor.numsS, List.getD_cons_zero, List.getD_cons_succ, List.drop_succ_cons, List.drop_zero, List.flatMap_cons]
  unfold oidParseS
  rw [he, if_neg (by simp [base_ne]), oidSt_fwd (by simp) (by omega)]
  have hs : addS [] (40 * a + b).toNat = [a, b] := by
    unfold addS
    rw [if_pos rfl]
    split
    · simp only [List.cons.injEq, and_true]
      omega
    · simp only [List.cons.injEq, and_true]
      omega
  rw [hs, oidSt_all r [a, b] (by simp) (fun n hn => g3 n (by simp [hn])) (by simp; omega)]
  rfl
theorem open_fwd {t : Tag} (h : tagGood t) {y : List UInt8} (hy : y.length ≤ 16777216) (rest : List UInt8) : openS t (wrapS t y ++ rest) = .ok (y, (wrapS t y).length) := by
  unfold openS
  rw [wrap_read h hy]
  simp only
  rw [if_neg (by simp), if_neg (by rw [List.length_append, wrap_len]; omega), wrap_len]
  have e : (wrapS t y ++ rest).drop (1 + (lenBytes y.length).length) = y ++ rest := by
    unfold wrapS
    rw [Nat.add_comm, List.cons_append, List.drop_succ_cons, List.append_assoc, List.drop_left]
  rw [e, List.take_left]
theorem oidRead_fwd {o : List Int} (h : oidOk o = true) (rest : List UInt8) : oidReadS (oidWhole o ++ rest) = .ok (o, (oidWhole o).length) := by
  unfold oidReadS oidWhole
  rw [open_fwd tag6 (by have := oidBytes_len (o := o) (by unfold oidOk at h; simp only [Bool.and_eq_true, decide_eq_true_eq] at h; omega); omega)]
  simp only
  rw [oidParse_fwd h]
theorem one_of_single {b : List UInt8} (h : singleB b = true) : ∃ t k n, oneS b = .ok (t, k, n) ∧ ¬ n < b.length := by
  unfold singleB at h
  split at h
  · rename_i ls hls
    cases b with
    | nil => rw [allS_nil] at hls; cases hls; simp at h
    | cons x t =>
      unfold allS at hls
      simp only [List.length_cons, wholesS] at hls
      split at hls
      · cases hls
      · rename_i u k n hn
        split at hls
        · cases hls
        · rename_i l hl
          simp only [Except.ok.injEq] at hls
          subst hls
          refine ⟨_, _, _, hn, fun hlt => ?_⟩
          simp only [List.length_cons, beq_iff_eq, Nat.add_eq_right, List.length_eq_zero_iff] at h
          subst h
          have hd : (x :: t).drop n ≠ [] := by
            rw [Ne, List.drop_eq_nil_iff]
            omega
          cases hq : (x :: t).drop n with
          | nil => exact hd hq
          | cons y s =>
            rw [hq] at hl
            cases ht : t.length with
            | zero => rw [ht] at hl; simp [wholesS] at hl
            | succ f =>
              rw [ht] at hl
              simp only [wholesS] at hl
              split at hl
              · cases hl
              · split at hl
                · cases hl
                · cases hl
  · cases h
theorem part_fwd {p : Part} {x : List UInt8} (h : attrS p.o p.b = some x) (hb : p.b.length ≤ 16000000) (rest : List UInt8) : partReadS (x ++ rest) = .ok (p, x.length) ∧ x ≠ [] := by
  unfold attrS at h
  split at h
  · rename_i h0
    simp only [Bool.and_eq_true] at h0
    simp only [Option.some.injEq] at h
    subst h
    have hol := oidWhole_len (o := p.o) (by have := h0.1; unfold oidOk at this; simp only [Bool.and_eq_true, decide_eq_true_eq] at this; omega)
    refine ⟨?_, by simp [wrapS]⟩
    unfold partReadS
    rw [open_fwd tag16 (by rw [List.length_append]; omega)]
    simp only
    rw [oidRead_fwd h0.1]
    simp only
    rw [List.drop_left]
    obtain ⟨t, k, n, hn, hlt⟩ := one_of_single h0.2
    rw [hn]
    simp only
    rw [if_neg (by rw [List.length_append]; omega)]
  · cases h
theorem stepsS_last (y : Option (List UInt8)) (x : List UInt8) (p : Part) (t : List Part) (ws : List (List UInt8)) (ha : attrS p.o p.b = some x) (hc : ∀ z, y = some z → cmpS z x < 0) (h : stepsS (some x) t = some ws) : stepsS y (p :: t) = some (x :: ws) := by
  simp only [stepsS, ha, h]
  cases y with
  | none => rfl
  | some z =>
    have := hc z rfl
    simp only
    rw [if_neg (by simp; omega)]
    rfl
theorem rdnGo_back : ∀ (f : Nat) (out : List Part) (last l : List UInt8) (r : List Part), out.length ≤ 16 → l.length ≤ f → rdnGoS f out last l = .ok r → ∃ t ws, r = out ++ t ∧ stepsS (if out.length = 0 then none else some last) t = some ws ∧ ws.flatten = l ∧ r.length ≤ 16 ∧ r.length ≠ 0
  | f, out, last, [], r, ho, hl, h => by
    have h' : (if out.length = 0 then (.error 6 : Except Int (List Part)) else .ok out) = .ok r := by cases f <;> exact h
    split at h'
    · cases h'
    · rename_i h0
      cases h'
      exact ⟨[], [], by simp, rfl, rfl, ho, h0⟩
  | 0, out, last, x :: t, r, ho, hl, h => by simp at hl
  | f + 1, out, last, x :: t, r, ho, hl, h => by
    simp only [rdnGoS] at h
    split at h
    · cases h
    rename_i h16
    split at h
    · cases h
    rename_i p m hx
    obtain ⟨hb1, hb2, hb3, hb4⟩ := partRead_back hx
    split at h
    · cases h
    rename_i hc1
    split at h
    · cases h
    rename_i hc2
    obtain ⟨t', ws, rfl, h2, h3, h4, h5⟩ := rdnGo_back f (out ++ [p]) _ _ r (by rw [List.length_append, List.length_singleton]; omega) (by simp only [List.length_drop, List.length_cons] at hl ⊢; omega) h
    rw [if_neg (by simp)] at h2
    refine ⟨p :: t', (x :: t).take m :: ws, by simp, stepsS_last _ _ p t' ws hb1 (fun z hz => ?_) h2, ?_, h4, h5⟩
    · split at hz
      · cases hz
      · rename_i h0
        simp only [Option.some.injEq] at hz
        subst hz
        omega
    · rw [List.flatten_cons, h3, List.take_append_drop]
theorem rdnRead_back {l : List UInt8} {r : List Part} {k : Nat} (h : rdnReadS l = .ok (r, k)) : ∃ ws, rdnS r = some ws ∧ l.take k = rdnWhole ws ∧ k ≤ l.length ∧ 1 ≤ k := by
  have hk := rdnRead_len h
  unfold rdnReadS at h
  split at h
  · cases h
  rename_i x k' hx
  split at h
  · cases h
  rename_i r' hr
  simp only [Except.ok.injEq, Prod.mk.injEq] at h
  obtain ⟨rfl, rfl⟩ := h
  obtain ⟨h1, -, -, -⟩ := open_back hx tag17
  obtain ⟨t, ws, g1, g2, g3, g4, g5⟩ := rdnGo_back _ [] [] x _ (by simp) (Nat.le_refl _) hr
  rw [List.nil_append] at g1
  subst g1
  refine ⟨ws, ?_, by rw [h1, ← g3]; rfl, hk⟩
  unfold rdnS
  rw [if_neg (by omega)]
  exact g2
theorem nameGo_back : ∀ (f : Nat) (out : List (List Part)) (l : List UInt8) (n : List (List Part)), out.length ≤ 64 → l.length ≤ f → nameGoS f out l = .ok n → ∃ t, n = out ++ t ∧ (∀ r ∈ t, (rdnS r).isSome = true) ∧ (wholesN t).flatten = l ∧ n.length ≤ 64
  | f, out, [], n, ho, hl, h => by
    have h' : (.ok out : Except Int (List (List Part))) = .ok n := by cases f <;> exact h
    cases h'
    exact ⟨[], by simp, by simp, rfl, ho⟩
  | 0, out, x :: t, n, ho, hl, h => by simp at hl
  | f + 1, out, x :: t, n, ho, hl, h => by
    simp only [nameGoS] at h
    split at h
    · cases h
    rename_i h64
    split at h
    · cases h
    rename_i r k hx
    obtain ⟨ws, hb1, hb2, hb3, hb4⟩ := rdnRead_back hx
    obtain ⟨t', rfl, h2, h3, h4⟩ := nameGo_back f (out ++ [r]) _ n (by rw [List.length_append, List.length_singleton]; omega) (by simp only [List.length_drop, List.length_cons] at hl ⊢; omega) h
    refine ⟨r :: t', by simp, fun q hq => ?_, ?_, h4⟩
    · rcases List.mem_cons.1 hq with rfl | hq
      · rw [hb1]; rfl
      · exact h2 q hq
    · have e : wholesN (r :: t') = rdnWhole ws :: wholesN t' := by
        unfold wholesN
        rw [List.map_cons, hb1]
        rfl
      rw [e, List.flatten_cons, h3, ← hb2, List.take_append_drop]
theorem nameParse_back {l : List UInt8} {n : List (List Part)} (h : nameParseS l = .ok n) : nameOk n = true ∧ nameWhole n = l := by
  unfold nameParseS at h
  split at h
  · cases h
  rename_i n' k hr
  split at h
  · cases h
  rename_i hk
  simp only [Except.ok.injEq] at h
  subst h
  unfold nameReadS at hr
  split at hr
  · cases hr
  rename_i x k' hx
  split at hr
  · cases hr
  rename_i n2 hn
  simp only [Except.ok.injEq, Prod.mk.injEq] at hr
  obtain ⟨rfl, rfl⟩ := hr
  obtain ⟨h1, -, h3, -⟩ := open_back hx tag16
  obtain ⟨t, g1, g2, g3, g4⟩ := nameGo_back _ [] x _ (by simp) (Nat.le_refl _) hn
  rw [List.nil_append] at g1
  subst g1
  refine ⟨?_, ?_⟩
  · unfold nameOk
    rw [Bool.and_eq_true]
    exact ⟨decide_eq_true g4, List.all_eq_true.2 g2⟩
  · unfold nameWhole
    rw [g3, ← h1, List.take_of_length_le (by omega)]
theorem rdnGo_fwd : ∀ (t : List Part) (ws : List (List UInt8)) (out : List Part) (last : List UInt8) (f : Nat), stepsS (if out.length = 0 then none else some last) t = some ws → out.length + t.length ≤ 16 → out.length + t.length ≠ 0 → (∀ p ∈ t, p.b.length ≤ 16000000) → ws.flatten.length ≤ f → rdnGoS f out last ws.flatten = .ok (out ++ t)
  | [], ws, out, last, f, h, h16, h0, hb, hf => by
    simp only [stepsS, Option.some.injEq] at h
    subst h
    have e : rdnGoS f out last [] = if out.length = 0 then .error 6 else .ok out := by cases f <;> rfl
    rw [List.flatten_nil, e, if_neg (by simpa using h0), List.append_nil]
  | p :: t, ws, out, last, f, h, h16, h0, hb, hf => by
    obtain ⟨x, ws', h1, h2, rfl, h3⟩ := steps_in h
    obtain ⟨h4, h5⟩ := part_fwd h1 (hb p (List.mem_cons_self ..)) ws'.flatten
    rw [List.flatten_cons] at hf ⊢
    simp only [List.length_cons, List.length_append] at h16 hf
    cases x with
    | nil => exact absurd rfl h5
    | cons y s =>
      simp only [List.length_cons] at hf
      obtain ⟨f, rfl⟩ : ∃ f', f = f' + 1 := ⟨f - 1, by omega⟩
      rw [List.cons_append] at h4 ⊢
      simp only [rdnGoS]
      rw [if_neg (by omega), h4]
      simp only
      have e1 : (y :: (s ++ ws'.flatten)).take (y :: s).length = y :: s := by rw [← List.cons_append, List.take_left]
      have e2 : (y :: (s ++ ws'.flatten)).drop (y :: s).length = ws'.flatten := by rw [← List.cons_append, List.drop_left]
      rw [e1, e2]
      have hc : out.length ≠ 0 → cmpS last (y :: s) < 0 := fun h0 => h3 last (by rw [if_neg h0])
      rw [if_neg (fun hh => by have := hc hh.1; omega), if_neg (fun hh => by have := hc hh.1; omega)]
      rw [rdnGo_fwd t ws' (out ++ [p]) (y :: s) f (by rw [if_neg (by simp)]; exact h2) (by simp; omega) (by simp) (fun q hq => hb q (List.mem_cons_of_mem _ hq)) (by omega)]
      simp
theorem rdnRead_fwd {r : List Part} {ws : List (List UInt8)} (h : rdnS r = some ws) (hb : ∀ p ∈ r, p.b.length ≤ 16000000) (hl : ws.flatten.length ≤ 16777216) (rest : List UInt8) : rdnReadS (rdnWhole ws ++ rest) = .ok (r, (rdnWhole ws).length) := by
  unfold rdnS at h
  split at h
  · cases h
  rename_i hr
  unfold rdnReadS rdnWhole
  rw [open_fwd tag17 hl]
  simp only [rdnSt]
  rw [rdnGo_fwd r ws [] [] _ h (by rw [List.length_nil]; omega) (by rw [List.length_nil]; omega) hb (Nat.le_refl _)]
  rfl
theorem nameGo_fwd : ∀ (t out : List (List Part)) (f : Nat), (∀ r ∈ t, (rdnS r).isSome = true) → (∀ r ∈ t, ∀ p ∈ r, p.b.length ≤ 16000000) → out.length + t.length ≤ 64 → (wholesN t).flatten.length ≤ 16777216 → (wholesN t).flatten.length ≤ f → nameGoS f out (wholesN t).flatten = .ok (out ++ t)
  | [], out, f, _, _, _, _, _ => by
    have e : nameGoS f out [] = .ok out := by cases f <;> rfl
    rw [List.append_nil]
    exact e
  | r :: t, out, f, h, hb, h64, hl, hf => by
    obtain ⟨ws, hws⟩ := Option.isSome_iff_exists.1 (h r (List.mem_cons_self ..))
    have e : wholesN (r :: t) = rdnWhole ws :: wholesN t := by
      unfold wholesN
      rw [List.map_cons, hws]
      rfl
    rw [e, List.flatten_cons] at hl hf ⊢
    rw [List.length_append] at hl hf
    have hwl : (rdnWhole ws).length = 1 + (lenBytes ws.flatten.length).length + ws.flatten.length := wrap_len _ _
    have hx := rdnRead_fwd hws (hb r (List.mem_cons_self ..)) (by omega) (wholesN t).flatten
    generalize hW : rdnWhole ws = W at *
    cases W with
    | nil => simp at hwl; omega
    | cons y s =>
      simp only [List.length_cons] at hf h64
      obtain ⟨f, rfl⟩ : ∃ f', f = f' + 1 := ⟨f - 1, by omega⟩
      rw [List.cons_append] at hx ⊢
      simp only [nameGoS]
      rw [if_neg (by omega), hx]
      simp only
      have e2 : (y :: (s ++ (wholesN t).flatten)).drop (y :: s).length = (wholesN t).flatten := by rw [← List.cons_append, List.drop_left]
      rw [e2, nameGo_fwd t (out ++ [r]) f (fun q hq => h q (List.mem_cons_of_mem _ hq)) (fun q hq => hb q (List.mem_cons_of_mem _ hq)) (by simp; omega) (by omega) (by omega)]
      simp
theorem nameParse_fwd {n : List (List Part)} (h : nameOk n = true) (hb : ∀ r ∈ n, ∀ p ∈ r, p.b.length ≤ 16000000) (hl : (wholesN n).flatten.length ≤ 16777216) : nameParseS (nameWhole n) = .ok n := by
  obtain ⟨h1, h2⟩ := name_rdns h
  have e := open_fwd tag16 hl []
  rw [List.append_nil] at e
  unfold nameParseS nameReadS nameWhole
  rw [e]
  simp only [nameSt]
  rw [nameGo_fwd n [] _ h2 hb (by simpa using h1) hl (Nat.le_refl _)]
  simp
end Go.Q

namespace Go.Q
open Go
section
variable {α : Type} (rd : List UInt8 → Except Int (α × Nat)) (mx : Nat)
def manyGo : Nat → List α → List UInt8 → Except Int (List α)
  | _, out, [] => .ok out
  | 0, _, _ :: _ => .error 3
  | f + 1, out, x :: t =>
    if out.length = mx then .error 2 else
    match rd (x :: t) with
    | .error e => .error e
    | .ok (g, k) => manyGo f (out ++ [g]) ((x :: t).drop k)
def manySt (out : List α) (l : List UInt8) : Except Int (List α) := manyGo rd mx l.length out l
variable {rd mx}
theorem manyGo_fuel (hp : ∀ l g k, rd l = .ok (g, k) → 1 ≤ k) : ∀ (f g : Nat) (out : List α) (l : List UInt8), l.length ≤ f → l.length ≤ g → manyGo rd mx f out l = manyGo rd mx g out l := by
  intro f
  induction f with
  | zero =>
    intro g out l h _
    obtain rfl : l = [] := List.length_eq_zero_iff.1 (by omega)
    cases g <;> rfl
  | succ f ih =>
    intro g out l h h2
    cases l with
    | nil => cases g <;> rfl
    | cons x t =>
      obtain ⟨g, rfl⟩ : ∃ g', g = g' + 1 := ⟨g - 1, by simp at h2; omega⟩
      simp only [manyGo]
      split
      · rfl
      cases hr : rd (x :: t) with
      | error e => rfl
      | ok yk =>
        obtain ⟨y, k⟩ := yk
        have := hp _ _ _ hr
        simp only [List.length_cons] at h h2
        exact ih g _ _ (by simp only [List.length_drop, List.length_cons]; omega) (by simp only [List.length_drop, List.length_cons]; omega)
theorem manySt_nil (out : List α) : manySt rd mx out [] = .ok out := rfl
theorem manySt_full {out : List α} {l : List UInt8} (h0 : l ≠ []) (h : out.length = mx) : manySt rd mx out l = .error 2 := by
  cases l with
  | nil => exact absurd rfl h0
  | cons x t => simp only [manySt, List.length_cons, manyGo, if_pos h]
theorem manySt_err {out : List α} {l : List UInt8} {e : Int} (h0 : l ≠ []) (h : out.length ≠ mx) (hp : rd l = .error e) : manySt rd mx out l = .error e := by
  cases l with
  | nil => exact absurd rfl h0
  | cons x t => simp only [manySt, List.length_cons, manyGo, if_neg h, hp]
theorem manySt_ok (hpos : ∀ l g k, rd l = .ok (g, k) → 1 ≤ k) {out : List α} {l : List UInt8} {r : α} {k : Nat} (h0 : l ≠ []) (h : out.length ≠ mx) (hp : rd l = .ok (r, k)) : manySt rd mx out l = manySt rd mx (out ++ [r]) (l.drop k) := by
  have hb := hpos _ _ _ hp
  cases l with
  | nil => exact absurd rfl h0
  | cons x t =>
    simp only [manySt, List.length_cons, manyGo, if_neg h, hp]
    exact manyGo_fuel hpos t.length ((x :: t).drop k).length _ _ (by simp only [List.length_drop, List.length_cons]; omega) (Nat.le_refl _)
theorem many_fwd {wr : α → List UInt8} : ∀ (t out : List α), (∀ g ∈ t, ∀ rest, rd (wr g ++ rest) = .ok (g, (wr g).length)) → (∀ l g k, rd l = .ok (g, k) → 1 ≤ k) → out.length + t.length ≤ mx → manySt rd mx out (t.map wr).flatten = .ok (out ++ t)
  | [], out, _, _, _ => by simp [manySt_nil]
  | g :: t, out, h, hp, hm => by
    simp only [List.length_cons] at hm
    have h1 := h g (by simp) (t.map wr).flatten
    have h2 := hp _ _ _ h1
    rw [List.map_cons, List.flatten_cons, manySt_ok hp (by intro e; have := congrArg List.length e; rw [List.length_append, List.length_nil] at this; omega) (by omega) h1, List.drop_left,
      many_fwd t (out ++ [g]) (fun x hx => h x (by simp [hx])) hp (by simp; omega)]
    simp
end
end Go.Q

namespace Go.Q
open Go Go.RowKit
structure Gen where
  k : Int
  b : List UInt8
  n : List (List Part)
def madeG (k : Int) : Bool := k == 0 || k == 3 || k == 4 || k == 5
def tagAt (k : Int) (m : Bool) : Tag := ⟨2, k, m⟩
def genTag (k : Int) : Tag := tagAt k (madeG k)
def plainB (b : List UInt8) : Bool := decide (0 < b.length) && b.all (fun c => decide (c.toNat ≤ 127))
def wholesB (b : List UInt8) : Bool := match allS b with | .ok ls => decide (0 < ls.length) | .error _ => false
def oidB (b : List UInt8) : Bool := match oidParseS b with | .ok _ => true | .error _ => false
def contB (k : Int) (b : List UInt8) : Bool :=
  if k = 1 ∨ k = 2 ∨ k = 6 then plainB b else if k = 7 then decide (b.length = 4 ∨ b.length = 16) else if k = 8 then oidB b else if k = 0 ∨ k = 3 ∨ k = 5 then wholesB b else false
def genOk (g : Gen) : Bool := if g.k = 4 then decide (g.b.length = 0) && nameOk g.n else decide (g.n.length = 0) && contB g.k g.b
def genBody (g : Gen) : List UInt8 := if g.k = 4 then nameWhole g.n else g.b
def genWhole (g : Gen) : List UInt8 := wrapS (genTag g.k) (genBody g)
def fewG (g : Gen) : Prop := g.b.length ≤ 10000000 ∧ ∀ r ∈ g.n, fewB r
def genReadS (l : List UInt8) : Except Int (Gen × Nat) :=
  match readS l with
  | .error e => .error e
  | .ok (t, n, k) =>
    if t.cls ≠ 2 ∨ 8 < t.num ∨ t.made ≠ madeG t.num then .error 4 else
    if l.length - k < n then .error 3 else
    if t.num = 4 then (match nameParseS ((l.drop k).take n) with
      | .error e => .error e
      | .ok m => .ok (⟨4, [], m⟩, k + n)) else
    if contB t.num ((l.drop k).take n) then .ok (⟨t.num, (l.drop k).take n, []⟩, k + n) else .error 6
def genSt (out : List Gen) (l : List UInt8) : Except Int (List Gen) := manySt genReadS 10000 out l
def genAllS (l : List UInt8) : Except Int (List Gen) := if l = [] then .error 6 else genSt [] l
def genListS (l : List UInt8) : Except Int (List Gen × Nat) :=
  match openS (tagOf 16) l with
  | .error e => .error e
  | .ok (y, k) => match genAllS y with
    | .error e => .error e
    | .ok gs => .ok (gs, k)
theorem cont_kind {k : Int} {b : List UInt8} (h : contB k b = true) : 0 ≤ k ∧ k ≤ 8 ∧ k ≠ 4 := by
  unfold contB at h
  split at h
  · omega
  split at h
  · omega
  split at h
  · omega
  split at h
  · omega
  · cases h
theorem gen_kind {g : Gen} (h : genOk g = true) : 0 ≤ g.k ∧ g.k ≤ 8 := by
  unfold genOk at h
  split at h
  · omega
  · rw [Bool.and_eq_true] at h
    have := cont_kind h.2
    omega
theorem genTag_good {k : Int} (h0 : 0 ≤ k) (h1 : k ≤ 8) : tagGood (genTag k) := ⟨⟨show (0 : Int) ≤ 2 by decide, show (2 : Int) < 4 by decide⟩, h0, show k < 31 by omega⟩
theorem readTag_num {l : List UInt8} {t : Tag} {k : Nat} (h : readTagS l = .ok (t, k)) : 0 ≤ t.num := by
  cases l with
  | nil => simp [readTagS] at h
  | cons x r =>
    simp only [readTagS] at h
    split at h
    · simp only [Except.ok.injEq, Prod.mk.injEq] at h
      obtain ⟨rfl, -⟩ := h
      exact Int.emod_nonneg _ (by decide)
    · split at h
      · cases h
      · simp only [Except.ok.injEq, Prod.mk.injEq] at h
        obtain ⟨rfl, -⟩ := h
        exact Int.natCast_nonneg _
theorem genRead_err {l : List UInt8} {e : Int} (h : readS l = .error e) : genReadS l = .error e := by unfold genReadS; rw [h]
theorem genRead_tag {l : List UInt8} {t : Tag} {n k : Nat} (h : readS l = .ok (t, n, k)) (ht : t.cls ≠ 2 ∨ 8 < t.num ∨ t.made ≠ madeG t.num) : genReadS l = .error 4 := by unfold genReadS; rw [h]; exact if_pos ht
theorem genRead_end {l : List UInt8} {t : Tag} {n k : Nat} (h : readS l = .ok (t, n, k)) (ht : ¬ (t.cls ≠ 2 ∨ 8 < t.num ∨ t.made ≠ madeG t.num)) (hn : l.length - k < n) : genReadS l = .error 3 := by unfold genReadS; rw [h]; simp only; rw [if_neg ht, if_pos hn]
theorem genRead_dir {l : List UInt8} {t : Tag} {n k : Nat} (h : readS l = .ok (t, n, k)) (ht : ¬ (t.cls ≠ 2 ∨ 8 < t.num ∨ t.made ≠ madeG t.num)) (hn : ¬ l.length - k < n) (h4 : t.num = 4) : genReadS l = (match nameParseS ((l.drop k).take n) with | .error e => .error e | .ok m => .ok (⟨4, [], m⟩, k + n)) := by unfold genReadS; rw [h]; simp only; rw [if_neg ht, if_neg hn, if_pos h4]
theorem genRead_on {l : List UInt8} {t : Tag} {n k : Nat} (h : readS l = .ok (t, n, k)) (ht : ¬ (t.cls ≠ 2 ∨ 8 < t.num ∨ t.made ≠ madeG t.num)) (hn : ¬ l.length - k < n) (h4 : ¬ t.num = 4) : genReadS l = if contB t.num ((l.drop k).take n) then .ok (⟨t.num, (l.drop k).take n, []⟩, k + n) else .error 6 := by unfold genReadS; rw [h]; simp only; rw [if_neg ht, if_neg hn, if_neg h4]
theorem genRead_back (l : List UInt8) (g : Gen) (k : Nat) (h : genReadS l = .ok (g, k)) : (genOk g = true ∧ (genBody g).length ≤ l.length ∧ (genBody g).length ≤ 16777216) ∧ l.take k = genWhole g ∧ 1 ≤ k ∧ k ≤ l.length := by
  cases hr : readS l with
  | error e => rw [genRead_err hr] at h; cases h
  | ok tnk =>
    obtain ⟨t, n, j⟩ := tnk
    by_cases ht : t.cls ≠ 2 ∨ 8 < t.num ∨ t.made ≠ madeG t.num
    · rw [genRead_tag hr ht] at h; cases h
    by_cases hn : l.length - j < n
    · rw [genRead_end hr ht hn] at h; cases h
    obtain ⟨i, m, hi, -, -⟩ := readS_parts hr
    have h0 := readTag_num hi
    obtain ⟨h1, h2, h3⟩ : t.cls = 2 ∧ t.num ≤ 8 ∧ t.made = madeG t.num := ⟨Classical.byContradiction fun h => ht (.inl h), Classical.byContradiction fun h => ht (.inr (.inl (by omega))), Classical.byContradiction fun h => ht (.inr (.inr h))⟩
    have htt : t = genTag t.num := by
      obtain ⟨c, x, y⟩ := t
      simp only at h1 h2 h3
      rw [h1, h3]
      rfl
    have hg : tagGood t := by rw [htt]; exact genTag_good h0 h2
    obtain ⟨b1, b2, b3⟩ := readS_back hr hg
    have hp := readS_pos hr
    have hl : ((l.drop j).take n).length = n := by rw [List.length_take, List.length_drop]; omega
    have hw : l.take (j + n) = wrapS t ((l.drop j).take n) := by
      rw [take_both, b1, wrapS, hl]
      rfl
    by_cases h4 : t.num = 4
    · rw [genRead_dir hr ht hn h4] at h
      cases hq : nameParseS ((l.drop j).take n) with
      | error e => rw [hq] at h; cases h
      | ok m =>
        rw [hq] at h
        simp only [Except.ok.injEq, Prod.mk.injEq] at h
        obtain ⟨rfl, rfl⟩ := h
        obtain ⟨c1, c2⟩ := nameParse_back hq
        have hb : genBody ⟨4, [], m⟩ = (l.drop j).take n := by rw [← c2]; rfl
        refine ⟨⟨by simp [genOk, c1], by rw [hb, hl]; omega, by rw [hb, hl]; omega⟩, ?_, by omega, by omega⟩
        unfold genWhole
        rw [hb, hw, htt, h4]
    · rw [genRead_on hr ht hn h4] at h
      split at h
      · rename_i hc
        simp only [Except.ok.injEq, Prod.mk.injEq] at h
        obtain ⟨rfl, rfl⟩ := h
        have hb : genBody ⟨t.num, (l.drop j).take n, []⟩ = (l.drop j).take n := if_neg h4
        refine ⟨⟨by simp [genOk, h4, hc], by rw [hb, hl]; omega, by rw [hb, hl]; omega⟩, ?_, by omega, by omega⟩
        unfold genWhole
        rw [hb, hw, ← htt]
      · cases h
theorem genRead_pos (l : List UInt8) (g : Gen) (k : Nat) (h : genReadS l = .ok (g, k)) : 1 ≤ k := (genRead_back l g k h).2.2.1
theorem genRead_fwd {g : Gen} (h : genOk g = true) (hb : (genBody g).length ≤ 16777216) (hn : ∀ r ∈ g.n, ∀ p ∈ r, p.b.length ≤ 16000000) (rest : List UInt8) : genReadS (genWhole g ++ rest) = .ok (g, (genWhole g).length) := by
  obtain ⟨k0, k8⟩ := gen_kind h
  have hr := wrap_read (genTag_good k0 k8) hb rest
  have hc : ¬ ((genTag g.k).cls ≠ 2 ∨ 8 < (genTag g.k).num ∨ (genTag g.k).made ≠ madeG (genTag g.k).num) := by
    rintro (h | h | h)
    · exact h rfl
    · have h2 : 8 < g.k := h
      omega
    · exact h rfl
  have hlen := wrap_len (genTag g.k) (genBody g)
  have hl : ¬ (wrapS (genTag g.k) (genBody g) ++ rest).length - (1 + (lenBytes (genBody g).length).length) < (genBody g).length := by
    rw [List.length_append, hlen]
    omega
  have hd : ((wrapS (genTag g.k) (genBody g) ++ rest).drop (1 + (lenBytes (genBody g).length).length)).take (genBody g).length = genBody g := by
    rw [wrapS, List.cons_append, Nat.add_comm 1, List.drop_succ_cons, List.append_assoc, List.drop_left, List.take_left]
  have hle : (genWhole g).length = 1 + (lenBytes (genBody g).length).length + (genBody g).length := hlen
  unfold genWhole at hle ⊢
  obtain ⟨k, b, n⟩ := g
  simp only at k0 k8 hn
  by_cases h4 : k = 4
  · subst h4
    rw [genRead_dir hr hc hl rfl, hd, hle]
    simp only [genOk, if_pos, Bool.and_eq_true, decide_eq_true_eq] at h
    obtain ⟨h1, h2⟩ := h
    obtain rfl : b = [] := List.length_eq_zero_iff.1 h1
    have e : genBody ⟨4, [], n⟩ = nameWhole n := rfl
    rw [e] at hb ⊢
    have hw : (wholesN n).flatten.length ≤ 16777216 := by
      unfold nameWhole at hb
      rw [wrap_len] at hb
      omega
    rw [nameParse_fwd h2 hn hw]
  · rw [genRead_on hr hc hl h4, hd, hle]
    simp only [genOk, if_neg h4, Bool.and_eq_true, decide_eq_true_eq] at h
    obtain ⟨h1, h2⟩ := h
    obtain rfl : n = [] := List.length_eq_zero_iff.1 h1
    have e : genBody ⟨k, b, []⟩ = b := if_neg h4
    rw [e]
    rw [if_pos (show contB (genTag k).num b = true from h2)]
    rfl
theorem genAll_fwd {gs : List Gen} (h : ∀ g ∈ gs, genOk g = true ∧ (genBody g).length ≤ 16777216 ∧ ∀ r ∈ g.n, ∀ p ∈ r, p.b.length ≤ 16000000) (h0 : gs ≠ []) (hl : gs.length ≤ 10000) : genAllS (gs.map genWhole).flatten = .ok gs := by
  have hne : (gs.map genWhole).flatten ≠ [] := by
    cases gs with
    | nil => exact absurd rfl h0
    | cons g t =>
      intro e
      have := congrArg List.length e
      simp [genWhole, wrapS] at this
  unfold genAllS
  rw [if_neg hne]
  exact many_fwd gs [] (fun g hg rest => by
    obtain ⟨a, b, c⟩ := h g hg
    exact genRead_fwd a b c rest) genRead_pos (by simpa using hl)
def lowB (c : UInt8) : UInt8 := if 65 ≤ c.toNat ∧ c.toNat ≤ 90 then c + 32 else c
def lowerS (l : List UInt8) : List UInt8 := l.map lowB
def labelC (c : UInt8) : Bool := decide ((97 ≤ c.toNat ∧ c.toNat ≤ 122) ∨ (48 ≤ c.toNat ∧ c.toNat ≤ 57) ∨ c.toNat = 45 ∨ c.toNat = 95)
def labelB (l : List UInt8) : Bool := decide (1 ≤ l.length ∧ l.length ≤ 63) && (lowerS l).all labelC
def dotS (l : List UInt8) : List UInt8 := if l.getLast? = some 46 then l.dropLast else l
def hostS (l : List UInt8) : Option (List UInt8) := if 253 < (dotS l).length then none else if (cutAt 46 (dotS l)).all labelB then some (lowerS (dotS l)) else none
def lastTo (c : UInt8) (l : List UInt8) : Nat → Int
  | 0 => -1
  | j + 1 => if l[j]? = some c then (j : Int) else lastTo c l j
def lastS (c : UInt8) (l : List UInt8) : Int := lastTo c l l.length
theorem lastTo_lt (c : UInt8) (l : List UInt8) : ∀ j, -1 ≤ lastTo c l j ∧ lastTo c l j < j ∧ lastTo c l j < l.length
  | 0 => by show (-1 : Int) ≤ -1 ∧ (-1 : Int) < ((0 : Nat) : Int) ∧ (-1 : Int) < (l.length : Int); omega
  | j + 1 => by
    obtain ⟨h1, h2, h3⟩ := lastTo_lt c l j
    unfold lastTo
    split
    · rename_i h
      have := (List.getElem?_eq_some_iff.1 h).1
      omega
    · omega
def mailS (l : List UInt8) : List UInt8 := if lastS 64 l < 0 then l else l.take (lastS 64 l).toNat ++ lowerS (l.drop (lastS 64 l).toNat)
def meanS (g : Gen) : List UInt8 := if g.k = 4 then nameKeyS g.n else if g.k = 2 then (match hostS g.b with | some h => h | none => 35 :: hexS g.b) else if g.k = 1 then mailS g.b else hexS g.b
def genKeyS (g : Gen) : List UInt8 := Lib.itoa g.k ++ meanS g
def genSameS (a b : Gen) : Bool := genOk a && genOk b && decide (genKeyS a = genKeyS b)
def genMeetS (a b : List Gen) : Bool := a.any fun x => b.any fun y => genSameS x y
end Go.Q

namespace Go.Q
open Go
def cutPart (p : Part) : Part := ⟨p.o.take 40, p.b.take 200⟩
def cutStep (l : List Part) : List Part := (l.take 20).map cutPart
def cutName (n : List (List Part)) : List (List Part) := (n.take 70).map cutStep
theorem cutStep_len (l : List Part) : (cutStep l).length ≤ 20 := by
  unfold cutStep
  rw [List.length_map, List.length_take]
  omega
def underS (n m : List (List Part)) : Bool := nameOk n && (decide (m.length ≤ n.length) && nameSameS (n.take m.length) m)
end Go.Q

namespace Go.Q
open Go Go.RowKit
theorem Ints.cut {w : World} {a : Option Addr} {c : Nat} {l : List Int} (h : Ints w (.slice a l.length c) l) (N m : Nat) (hm : m = min l.length N) : Ints w (.slice a m c) (l.take N) := by
  obtain ⟨a0, c0, he, h1, h2, -⟩ := Ints.form h
  simp only [Value.slice.injEq] at he
  obtain ⟨rfl, -, rfl⟩ := he
  have := Vals.sub h 0 m (Nat.zero_le _) (by omega) a c (fun _ b o e => by simpa using e) (by omega) h2
  simp only [Nat.sub_zero, List.drop_zero] at this
  have e : l.take N = l.take m := by
    rw [hm, ← List.take_take, List.take_of_length_le (l := l.take N) (by rw [List.length_take]; omega)]
  unfold Ints intCells
  rw [e, List.map_take]
  exact this
theorem Vals.cut {w : World} {a : Option Addr} {c : Nat} {l : List UInt8} (h : Bytes w (.slice a l.length c) l) (N m : Nat) (hm : m = min l.length N) : Bytes w (.slice a m c) (l.take N) := by
  obtain ⟨a0, c0, he, h1, h2, -⟩ := Vals.form h
  simp only [Value.slice.injEq] at he
  obtain ⟨rfl, -, rfl⟩ := he
  have := Vals.sub h 0 m (Nat.zero_le _) (by omega) a c (fun _ b o e => by simpa using e) (by omega) h2
  simp only [Nat.sub_zero, List.drop_zero] at this
  have e : l.take N = l.take m := by
    rw [hm, ← List.take_take, List.take_of_length_le (l := l.take N) (by rw [List.length_take]; omega)]
  unfold Bytes Lib.byteCells
  rw [e, List.map_take]
  exact this
theorem map_take_succ {α β : Type} (f : α → β) {l : List α} {j : Nat} {x : α} (h : l[j]? = some x) : (l.take (j + 1)).map f = (l.take j).map f ++ [f x] := by
  rw [List.take_add_one, h]
  simp
end Go.Q
namespace Go.Proofs.YthamenngccaijaaGreatDoor
open Go Go.RowKit Go.Q
set_option linter.unusedSimpArgs false
set_option maxRecDepth 20000 in
set_option maxHeartbeats 4000000 in
theorem lawStep_any (v : Value) (l : List Part) (w0 w : World) (h : Attrs w0 v l) (F0 : Fr (fun _ => False) w0 w) :
    Calls Tryz.prog 52 #[v] w fun e w' => (∃ a c, e = .returned (.slice a (cutStep l).length c) ∧ ARow 108 w0 w' w.heap.size (.slice a (cutStep l).length c) (cutStep l)) ∧ Fr (fun _ => False) w w' := by
  have H := Lib.hid h
  have HF0 := Lib.hid F0
  obtain ⟨a, cap, rfl, -⟩ := h
  have hcs : cutStep l = (l.take 20).map cutPart := rfl
  have HCS := Lib.hid hcs
  clear hcs F0
  go_enter Tryz.func52, Tryz.ntmps52
  go_wp2_with fail
  go_loopg [3, 4] l.length (fun g u i wr => ∃ (j : Nat) (au : Option Addr) (cu : Nat), g = l.length - j ∧ j ≤ l.length ∧ j ≤ 20 ∧ u = .slice au j cu ∧ i = .int .i64 j ∧ ARow 108 w0 wr w.heap.size (.slice au j cu) ((l.take j).map cutPart) ∧ Fr (fun _ => False) w wr)
  case atStart => exact ⟨0, none, 0, rfl, Nat.zero_le _, by omega, rfl, rfl, ARow.nil _ _ _ _, Fr.refl _⟩
  case round =>
    obtain ⟨j, au, cu, hg, hj, hj20, rfl, rfl, hrow, F⟩ := hrel
    have HG := Lib.hid hg
    have HRW := Lib.hid hrow
    have HF := Lib.hid F
    have hml : ((l.take j).map cutPart).length = j := by rw [List.length_map, List.length_take]; omega
    have HML := Lib.hid hml
    clear hg hrow hml
    by_cases hjl : j < l.length
    · have q1 : (j : Int) < (l.length : Int) := by omega
      by_cases h20 : j < 20
      · have q2 : (j : Int) < 20 := by omega
        obtain ⟨a0, cap0, he, _, _, hx⟩ := H.out
        simp only [Value.slice.injEq, true_and] at he
        obtain ⟨rfl, rfl⟩ := he
        obtain ⟨b, off, rfl, hy⟩ := hx (by omega)
        obtain ⟨p, hp⟩ : ∃ p, l[j]? = some p := ⟨_, List.getElem?_eq_getElem hjl⟩
        obtain ⟨x, y, e1, e2, hpx, hpy⟩ := hy j p hp
        obtain ⟨ax, cx, rfl, hcx, hmx, -⟩ := Ints.form hpx
        obtain ⟨ay, cy, rfl, hcy, hmy, -⟩ := Vals.form hpy
        have e1' : wr.cell? ⟨b, off + j * 2, none⟩ = some (.slice ax p.o.length cx) := by rw [Nat.mul_comm]; exact (HF0.out.trans F).cell e1 (fun h => h)
        have e2' : wr.cell? ⟨b, off + j * 2 + 1, none⟩ = some (.slice ay p.b.length cy) := by rw [Nat.mul_comm]; exact (HF0.out.trans F).cell e2 (fun h => h)
        obtain ⟨mo, hmo⟩ : ∃ m : Nat, m = min p.o.length 40 := ⟨_, rfl⟩
        obtain ⟨mb, hmb⟩ : ∃ m : Nat, m = min p.b.length 200 := ⟨_, rfl⟩
        have HPX := Lib.hid (Ints.cut hpx 40 mo hmo)
        have HPY := Lib.hid (Vals.cut hpy 200 mb hmb)
        have HMT := Lib.hid (map_take_succ cutPart hp)
        unfold maxLen at hmx hmy
        have c1 : min (p.o.length : Int) 40 = (mo : Int) := by omega
        have c2 : min (p.b.length : Int) 200 = (mb : Int) := by omega
        have c3 : (mo : Int) ≤ (cx : Int) := by omega
        have c4 : (mb : Int) ≤ (cy : Int) := by omega
        have c5 : (0 : Int) ≤ (mo : Int) := by omega
        have c6 : (0 : Int) ≤ (mb : Int) := by omega
        have r1 : (0 : Int) ≤ (j : Int) := by omega
        clear hx hy hp e1 e2 hpx hpy hmo hmb
        go_upto_region 6 with fail
        obtain ⟨z, hz⟩ : ∃ z, z = wr.heap.size := ⟨_, rfl⟩
        have BA := Blk.new wr 107 #[.slice ax p.o.length cx, .slice ay p.b.length cy]
        have F1 : Fr (fun _ => False) wr (wr.alloc (.cells #[.slice ax p.o.length cx, .slice ay p.b.length cy] 107)) := (Fr.refl wr).alloc _
        rw [← hz] at BA ⊢
        have HZ := Lib.hid hz
        clear hz e1' e2'
        generalize (wr.alloc (.cells #[.slice ax p.o.length cx, .slice ay p.b.length cy] 107)) = w1 at *
        obtain ⟨wa, hwa⟩ : ∃ wa, wa = w1.drew.alloc (.cells #[.slice ax mo cx, .slice ay mb cy] 108) := ⟨_, rfl⟩
        have Fa : Fr (fun _ => False) wr wa := by rw [hwa]; exact F1.drew.alloc _
        have BAa : Blk wa z 107 #[.slice ax p.o.length cx, .slice ay p.b.length cy] := by rw [hwa]; exact BA.drew.alloc _
        have BX : Blk wa w1.heap.size 108 #[.slice ax mo cx, .slice ay mb cy] := by rw [hwa]; exact Blk.new w1.drew _ _
        obtain ⟨a7, c7, w7, hrun, hrow7, F7⟩ := ARow.add Tryz.underlying90 info108 (HRW.out.fr Fa (fun _ _ h => h)) (HF.out.trans Fa).size (Fr.refl wa) w1.heap.size BX (cutPart p) HPX.out HPY.out (by rw [HML.out]; omega)
        have HG7 := Lib.hid ((HF.out.trans Fa).trans' F7 (fun i hi e => absurd hi (by have := (HRW.out.keep i e).1; omega)))
        have BA7 := BAa.fr F7 (fun e => by have := (HRW.out.keep z e).2; have := HZ.out; omega)
        rw [HML.out] at hrun hrow7
        have HRUN := Lib.hid hrun
        have HROW7 := Lib.hid hrow7
        have HC0 := Lib.hid BA.drew.cell
        have HCa := Lib.hid BAa.cell
        have HC7 := Lib.hid BA7.cell
        rw [hwa] at HCa HRUN
        clear hrun hrow7 F7 BA7 BAa BX Fa F1 BA hwa
        go_region_held3 (fun w' => ∀ j, w'.cell? ⟨z, j, none⟩ = (#[.slice ax p.o.length cx, .slice ay p.b.length cy] : Array Value)[j]?) (first | exact HC0.out | exact HCa.out | exact HC7.out) (first
          | (refine step_append_run (by rfl) (.tmp 20) (.tmp 36) 90 (by rfl) _ w7 (by exact HRUN.out) ?_)
          | fail)
        all_goals
          go_wp2_with fail
          go_roundg (l.length - (j + 1))
          case measure => rw [HG.out]; omega
          case rel => exact ⟨j + 1, a7, c7, rfl, by omega, by omega, rfl, by go_num, by rw [HMT.out]; exact HROW7.out, HG7.out⟩
      · obtain rfl : j = 20 := by omega
        have q2 : ¬ ((20 : Nat) : Int) < 20 := by omega
        have hres : (l.take 20).map cutPart = cutStep l := HCS.out.symm
        have hrow := HRW.out
        rw [hres] at hrow
        have hlen : 20 = (cutStep l).length := by rw [← hres, HML.out]
        have HL := Lib.hid hlen
        have HROW := Lib.hid hrow
        clear hres hrow hlen
        go_wp2_with fail
        go_ret
        exact ⟨⟨au, cu, by rw [← HL.out]; rfl, by rw [← HL.out]; exact HROW.out⟩, F⟩
    · obtain rfl : j = l.length := by omega
      have hres : (l.take l.length).map cutPart = cutStep l := by rw [HCS.out, List.take_of_length_le hj20, List.take_length]
      have hrow := HRW.out
      rw [hres] at hrow
      have hlen : l.length = (cutStep l).length := by rw [← hres, HML.out]
      have HL := Lib.hid hlen
      have HROW := Lib.hid hrow
      clear hres hrow hlen
      go_wp2_with fail
      go_ret
      exact ⟨⟨au, cu, by rw [← HL.out]; rfl, by rw [← HL.out]; exact HROW.out⟩, F⟩
theorem info107 : (Tryz.prog.info? 107).map (fun i => (i.zero, i.size, i.bytes)) = some (some (.agg #[.slice none 0 0, .slice none 0 0]), 2, 48) := by kernel_rfl
theorem info92 : (Tryz.prog.info? 92).map (fun i => (i.zero, i.size, i.bytes)) = some (some (.slice none 0 0), 1, 24) := by kernel_rfl
end Go.Proofs.YthamenngccaijaaGreatDoor

namespace Go.Q
open Go Go.RowKit
theorem Kept.weaken {R : World → Prop} {K K' : Nat → Prop} {w : World} (h : Kept R K w) (hK : ∀ k, K' k → K k) : Kept R K' w := fun W f => h W (f.mono (fun k _ hs => hK k hs))
theorem own_kept {w : World} {base n : Nat} {e : TypeId} {v : Value} {xs : List Value} (h : w.ownsRow base e 1 v n xs) (K : Nat → Prop) (hK : ∀ k, K k → k < base) : Kept (fun W => Vals W v xs) K w := fun W f =>
  (Vals.of_own (Go.Proofs.YthamenngccaijaaGreatDoor.ownsRow_fr h f (fun k hk hs => by have := ((Vals.of_own h).2 k hk).1; have := hK k hs; omega))).1
end Go.Q

namespace Go.Q
open Go Go.RowKit
def FRow (K : Nat → Prop) (t : TypeId) (w : World) (base : Nat) (v : Value) (n : List (List Part)) : Prop :=
  ∃ us : List Value, w.ownsRow base t 1 v n.length us ∧ us.length = n.length ∧ ∀ (i : Nat) (u : Value) (r : List Part), us[i]? = some u → n[i]? = some r → Kept (fun W => Attrs W u r) (fun k => v.ownBlock = some k ∨ K k) w
theorem FRow.old {K : Nat → Prop} {t : TypeId} {w w' : World} {base : Nat} {v : Value} {n : List (List Part)} (h : FRow K t w base v n) (f : Fr (fun _ => False) w w') : FRow K t w' base v n := by
  obtain ⟨us, h1, h2, h3⟩ := h
  exact ⟨us, Go.Proofs.YthamenngccaijaaGreatDoor.ownsRow_fr h1 f (fun _ _ h => h), h2, fun i u r hu hr => (h3 i u r hu hr).old f⟩
theorem FRow.keep {K : Nat → Prop} {t : TypeId} {w : World} {base : Nat} {v : Value} {n : List (List Part)} (h : FRow K t w base v n) : ∀ k, v.ownBlock = some k → base ≤ k ∧ k < w.heap.size := by
  obtain ⟨us, h1, -⟩ := h
  exact (Vals.of_own h1).2
theorem FRow.nil (K : Nat → Prop) (t : TypeId) (w : World) (base : Nat) : FRow K t w base (.slice none 0 0) [] := ⟨[], ⟨rfl, .inl ⟨rfl, rfl⟩⟩, rfl, fun i u r h => by simp at h⟩
theorem FRow.add {P : Program} {K : Nat → Prop} {t s : TypeId} (hu0 : P.underlying s = some (.slice t)) (hinf : Info P t (.slice none 0 0) 1 24) {w wa : World} {base : Nat} {v : Value} {n : List (List Part)} (h : FRow K t w base v n) (hb : base ≤ w.heap.size) (F1 : Fr (fun _ => False) w wa) (g : Nat) (u : Value) (r : List Part) (BX : Blk wa g t #[u]) (hu1 : u.oneCell' = true) (hu : Kept (fun W => Attrs W u r) (fun k => v.ownBlock = some k ∨ K k) w) (hn : n.length ≤ 109951162777) :
    ∃ a c w', (Builtin.append_ #[s, s] s #[v, .slice (some ⟨g, 0, none⟩) 1 1]).run P wa = .ok (.slice a (n.length + 1) c) w' ∧ FRow K t w' base (.slice a (n.length + 1) c) (n ++ [r]) ∧ Fr (fun k => v.ownBlock = some k) w w' := by
  obtain ⟨us, h1, h2, h3⟩ := h
  obtain ⟨a, c, w', hrun, h4, F2, h5⟩ := add_gen hu0 hinf rfl (by decide) (by decide) h1 hb F1 g [u] rfl BX (by simpa using hu1) hn
  have hst : ∀ (x : Value) (q : List Part), Kept (fun W => Attrs W x q) (fun k => v.ownBlock = some k ∨ K k) w → Kept (fun W => Attrs W x q) (fun k => (Value.slice a (n.length + 1) c).ownBlock = some k ∨ K k) w' := fun x q hq =>
    hq.step F2 (fun _ _ h => .inl h) (fun k hk => by
      rcases hk with h | h
      · rcases h5 k h with h | h
        · exact .inl (.inl h)
        · exact .inr h
      · exact .inl (.inr h))
  refine ⟨a, c, w', hrun, ⟨us ++ [u], ?_, by simp [h2], fun i x s hx hs => ?_⟩, F2⟩
  · rw [List.length_append]
    exact h4
  · rcases Nat.lt_or_ge i us.length with hi | hi
    · rw [List.getElem?_append_left hi] at hx
      rw [List.getElem?_append_left (by omega)] at hs
      exact hst _ _ (h3 i x s hx hs)
    · obtain rfl : i = us.length := by
        have := (List.getElem?_eq_some_iff.1 hx).1
        simp at this
        omega
      rw [List.getElem?_append_right (Nat.le_refl _)] at hx
      rw [List.getElem?_append_right (by omega)] at hs
      simp at hx
      simp [h2] at hs
      subst hx; subst hs
      exact hst _ _ hu
end Go.Q
namespace Go.Proofs.YthamenngccaijaaGreatDoor
open Go Go.RowKit Go.Q
set_option linter.unusedSimpArgs false
set_option maxRecDepth 20000 in
set_option maxHeartbeats 8000000 in
theorem lawOfK_any (v : Value) (n : List (List Part)) (wb w : World) (h : NameAt wb v n) (Fb : Fr (fun _ => False) wb w) (hn : n.length ≤ 1000000) (hr0 : ∀ r ∈ n, r.length ≤ 1000000) :
    Calls Tryz.prog 14 #[v] w fun e w' => (∃ a c, e = .returned (.slice a n.length c) ∧ FRow (fun k => wb.heap.size ≤ k ∧ k < w.heap.size) 92 w' w.heap.size (.slice a n.length c) n) ∧ Fr (fun _ => False) w w' := by
  have H := Lib.hid h
  have HFB := Lib.hid Fb
  have HR0 := Lib.hid hr0
  obtain ⟨a, cap, rfl, -⟩ := h
  clear hr0 Fb
  go_enter Tryz.func14, Tryz.ntmps14
  go_wp2_with fail
  go_loopg [3, 4] n.length (fun g u i wr => ∃ (j : Nat) (au : Option Addr) (cu : Nat), g = n.length - j ∧ j ≤ n.length ∧ u = .slice au j cu ∧ i = .int .i64 j ∧ FRow (fun k => wb.heap.size ≤ k ∧ k < w.heap.size) 92 wr w.heap.size (.slice au j cu) (n.take j) ∧ Fr (fun _ => False) w wr)
  case atStart => exact ⟨0, none, 0, rfl, Nat.zero_le _, rfl, rfl, FRow.nil _ _ _ _, Fr.refl _⟩
  case round =>
    obtain ⟨j, au, cu, hg, hj, rfl, rfl, hrow, F⟩ := hrel
    have HG := Lib.hid hg
    have HRW := Lib.hid hrow
    have HF := Lib.hid F
    have hml : (n.take j).length = j := by rw [List.length_take]; omega
    have HML := Lib.hid hml
    clear hg hrow hml
    by_cases hjl : j < n.length
    · have q1 : (j : Int) < (n.length : Int) := by omega
      obtain ⟨a0, cap0, he, _, _, hx⟩ := H.out
      simp only [Value.slice.injEq, true_and] at he
      obtain ⟨rfl, rfl⟩ := he
      obtain ⟨b, off, rfl, hy⟩ := hx (by omega)
      obtain ⟨r, hr⟩ : ∃ r, n[j]? = some r := ⟨_, List.getElem?_eq_getElem hjl⟩
      obtain ⟨x, e0, hA⟩ := hy j r hr
      have hrl := HR0.out r (List.mem_of_getElem? hr)
      have HE0 := Lib.hid e0
      have HMT := Lib.hid (show n.take (j + 1) = n.take j ++ [r] from by rw [List.take_add_one, hr]; rfl)
      have HA := Lib.hid hA
      obtain ⟨ar, cr, rfl, -⟩ := hA
      have r1 : (0 : Int) ≤ (j : Int) := by omega
      have r2 : (j : Int) < (n.length : Int) := by omega
      clear hx hy hr e0 F
      obtain ⟨wo, hwo⟩ : ∃ wo : World, wo = wr := ⟨_, rfl⟩
      obtain rfl := hwo
      go_wp2_with fail
      go_loopg [5, 6] r.length (fun g u k wr => ∃ (i : Nat) (a2 : Option Addr) (c2 : Nat), g = r.length - i ∧ i ≤ r.length ∧ u = .slice a2 i c2 ∧ k = .int .i64 i ∧ ARow 107 wb wr wo.heap.size (.slice a2 i c2) (r.take i) ∧ Fr (fun _ => False) wo wr)
      case atStart => exact ⟨0, none, 0, rfl, Nat.zero_le _, rfl, rfl, ARow.nil _ _ _ _, Fr.refl _⟩
      case round =>
        obtain ⟨i, a2, c2, hg, hi, rfl, rfl, hrow2, F2⟩ := hrel
        have HG2 := Lib.hid hg
        have HRW2 := Lib.hid hrow2
        have HF2 := Lib.hid F2
        have hml : (r.take i).length = i := by rw [List.length_take]; omega
        have HML2 := Lib.hid hml
        have e0 := ((HFB.out.trans HF.out).trans F2).cell HE0.out (fun h => h)
        clear hg hrow2 hml
        by_cases hil : i < r.length
        · have q2 : (i : Int) < (r.length : Int) := by omega
          obtain ⟨a1, cap1, he, _, _, hx⟩ := HA.out
          simp only [Value.slice.injEq, true_and] at he
          obtain ⟨rfl, rfl⟩ := he
          obtain ⟨b1, o1, rfl, hy⟩ := hx (by omega)
          obtain ⟨p, hp⟩ : ∃ p, r[i]? = some p := ⟨_, List.getElem?_eq_getElem hil⟩
          obtain ⟨x, y, e1, e2, hpx, hpy⟩ := hy i p hp
          obtain ⟨ax, cx, rfl, -⟩ := Ints.form hpx
          obtain ⟨ay, cy, rfl, -⟩ := Vals.form hpy
          have e1' : wb.cell? ⟨b1, o1 + i * 2, none⟩ = some (.slice ax p.o.length cx) := by rw [Nat.mul_comm]; exact e1
          have e2' : wb.cell? ⟨b1, o1 + i * 2 + 1, none⟩ = some (.slice ay p.b.length cy) := by rw [Nat.mul_comm]; exact e2
          have HMT2 := Lib.hid (show r.take (i + 1) = r.take i ++ [p] from by rw [List.take_add_one, hp]; rfl)
          have s1 : (0 : Int) ≤ (i : Int) := by omega
          obtain ⟨wa, hwa⟩ : ∃ wa, wa = wr.drew.alloc (.cells #[.slice ax p.o.length cx, .slice ay p.b.length cy] 107) := ⟨_, rfl⟩
          have Fa : Fr (fun _ => False) wr wa := by rw [hwa]; exact (Fr.refl wr).drew.alloc _
          have BX : Blk wa wr.heap.size 107 #[.slice ax p.o.length cx, .slice ay p.b.length cy] := by rw [hwa]; exact Blk.new wr.drew _ _
          obtain ⟨a7, c7, w7, hrun, hrow7, F7⟩ := ARow.add Tryz.underlying92 info107 (HRW2.out.fr Fa (fun _ _ h => h)) (HF2.out.trans Fa).size (Fr.refl wa) wr.heap.size BX p hpx hpy (by rw [HML2.out]; omega)
          have G7 : Fr (fun _ => False) wo w7 := (HF2.out.trans Fa).trans' F7 (fun i hi e => absurd hi (by have := (HRW2.out.keep i e).1; omega))
          have HG7 := Lib.hid G7
          rw [HML2.out] at hrun hrow7
          have HRUN := Lib.hid hrun
          have HROW7 := Lib.hid hrow7
          have hS : ∀ w', Fr (fun _ => False) wb w' → w'.cell? ⟨b, off + j, none⟩ = some (.slice (some ⟨b1, o1, none⟩) r.length cr) ∧ w'.cell? ⟨b1, o1 + i * 2, none⟩ = some (.slice ax p.o.length cx) ∧ w'.cell? ⟨b1, o1 + i * 2 + 1, none⟩ = some (.slice ay p.b.length cy) := fun w' f => ⟨f.cell HE0.out (fun h => h), f.cell e1' (fun h => h), f.cell e2' (fun h => h)⟩
          have HC0 := Lib.hid (hS wr.drew (((HFB.out.trans HF.out).trans HF2.out).drew))
          have HCa := Lib.hid (hS wa (((HFB.out.trans HF.out).trans HF2.out).trans Fa))
          have HC7 := Lib.hid (hS w7 ((HFB.out.trans HF.out).trans G7))
          rw [hwa] at HCa HRUN
          clear hrun hrow7 F7 G7 BX Fa hwa hx hy hp e1 e2 e1' e2' hpx hpy hS
          go_upto_region 9 with fail
          go_region_held3 (fun w' => w'.cell? ⟨b, off + j, none⟩ = some (.slice (some ⟨b1, o1, none⟩) r.length cr) ∧ w'.cell? ⟨b1, o1 + i * 2, none⟩ = some (.slice ax p.o.length cx) ∧ w'.cell? ⟨b1, o1 + i * 2 + 1, none⟩ = some (.slice ay p.b.length cy)) (first | exact HC0.out | exact HCa.out | exact HC7.out) (first
            | (refine step_append_run (by rfl) (.tmp 22) (.tmp 40) 92 (by rfl) _ w7 (by exact HRUN.out) ?_)
            | fail)
          all_goals
            go_wp2_with fail
            go_roundg (r.length - (i + 1))
            case measure => rw [HG2.out]; omega
            case rel => exact ⟨i + 1, a7, c7, rfl, by omega, rfl, by go_num, by rw [HMT2.out]; exact HROW7.out, HG7.out⟩
        · obtain rfl : i = r.length := by omega
          have hrow2 := HRW2.out
          rw [List.take_length] at hrow2
          have hkp := HRW.out.keep
          have hsw := HFB.out.size
          have hsf := HF.out.size
          have hk2 : Kept (fun W => Attrs W (.slice a2 r.length c2) r) (fun k => (Value.slice au j cu).ownBlock = some k ∨ (wb.heap.size ≤ k ∧ k < w.heap.size)) wr := hrow2.kept ((HFB.out.trans HF.out).trans HF2.out) _ (fun k e => by
            rcases e with e | e
            · have := hkp k e; omega
            · omega)
          obtain ⟨a7, c7, w7, hrun, hrow7, F7⟩ := FRow.add Tryz.underlying22 info92 (HRW.out.old HF2.out) (HF.out.trans HF2.out).size ((Fr.refl wr).alloc (.cells #[.slice a2 r.length c2] 92)) wr.heap.size _ r (Blk.new wr 92 #[.slice a2 r.length c2]) rfl hk2 (by rw [HML.out]; omega)
          have HG7 := Lib.hid ((HF.out.trans HF2.out).trans' F7 (fun i hi e => absurd hi (by have := (hkp i e).1; omega)))
          rw [HML.out] at hrun hrow7
          have HRUN := Lib.hid hrun
          have HROW7 := Lib.hid hrow7
          clear hrun hrow7 F7 hk2 hkp hrow2
          go_wp2_with (at_builtin; refine wpList_append_run (by rfl) (.tmp 42) (.tmp 44) 22 (by rfl) _ w7 (by exact HRUN.out) ?_)
          go_roundg (n.length - (j + 1))
          case measure => rw [HG.out]; omega
          case rel => exact ⟨j + 1, a7, c7, rfl, by omega, rfl, by go_num, by rw [HMT.out]; exact HROW7.out, HG7.out⟩
    · obtain rfl : j = n.length := by omega
      have hrow := HRW.out
      rw [List.take_length] at hrow
      have HROW := Lib.hid hrow
      clear hrow
      go_wp2_with fail
      go_ret
      exact ⟨⟨au, cu, rfl, HROW.out⟩, F⟩
end Go.Proofs.YthamenngccaijaaGreatDoor

namespace Go.Q
open Go Go.RowKit
def RGen (W : World) (cs : List Value) (g : Gen) : Prop := ∃ vb vn, cs = [.int .i64 g.k, vb, vn] ∧ Bytes W vb g.b ∧ NameAt W vn g.n
def GenAt (W : World) (u : Value) (g : Gen) : Prop := ∃ vb vn, u = .agg #[.int .i64 g.k, vb, vn] ∧ Bytes W vb g.b ∧ NameAt W vn g.n
abbrev Gens (W : World) (v : Value) (l : List Gen) : Prop := LAt 3 RGen W v l
theorem RGen.old (w w' : World) (cs : List Value) (g : Gen) (h : RGen w cs g) (f : Fr (fun _ => False) w w') : RGen w' cs g := by
  obtain ⟨vb, vn, rfl, h1, h2⟩ := h
  exact ⟨vb, vn, rfl, h1.old f, h2.old f⟩
theorem GenAt.old {w w' : World} {u : Value} {g : Gen} (h : GenAt w u g) (f : Fr (fun _ => False) w w') : GenAt w' u g := by
  obtain ⟨vb, vn, rfl, h1, h2⟩ := h
  exact ⟨vb, vn, rfl, h1.old f, h2.old f⟩
theorem Gens.old {w w' : World} {v : Value} {l : List Gen} (h : Gens w v l) (f : Fr (fun _ => False) w w') : Gens w' v l := LAt.old RGen.old h f
theorem GenAt.form {w : World} {u : Value} {g : Gen} (h : GenAt w u g) : ∃ ab cb an cn, u = .agg #[.int .i64 g.k, .slice ab g.b.length cb, .slice an g.n.length cn] ∧ Bytes w (.slice ab g.b.length cb) g.b ∧ NameAt w (.slice an g.n.length cn) g.n := by
  obtain ⟨vb, vn, rfl, h1, h2⟩ := h
  obtain ⟨ab, cb, rfl, -⟩ := h1.form
  have h3 := h2
  obtain ⟨an, cn, rfl, -⟩ := h3
  exact ⟨ab, cb, an, cn, rfl, h1, h2⟩
theorem Gens.get {w : World} {a : Option Addr} {n c : Nat} {l : List Gen} (h : Gens w (.slice a n c) l) {i : Nat} {g : Gen} (hi : l[i]? = some g) : ∃ b o ab cb an cn, a = some ⟨b, o, none⟩ ∧ n = l.length ∧ GenAt w (.agg #[.int .i64 g.k, .slice ab g.b.length cb, .slice an g.n.length cn]) g ∧ w.cell? ⟨b, o + i * 3, none⟩ = some (.int .i64 g.k) ∧ w.cell? ⟨b, o + i * 3 + 1, none⟩ = some (.slice ab g.b.length cb) ∧ w.cell? ⟨b, o + i * 3 + 2, none⟩ = some (.slice an g.n.length cn) := by
  obtain ⟨a0, c0, he, h1, h2, h3⟩ := h
  simp only [Value.slice.injEq] at he
  obtain ⟨rfl, rfl, rfl⟩ := he
  have hil := (List.getElem?_eq_some_iff.1 hi).1
  obtain ⟨b, o, rfl, hy⟩ := h3 (by omega)
  obtain ⟨cs, -, e2, vb, vn, rfl, g1, g2⟩ := hy i g hi
  obtain ⟨ab, cb, rfl, -⟩ := g1.form
  have g3 := g2
  obtain ⟨an, cn, rfl, -⟩ := g3
  rw [Nat.mul_comm] at e2
  exact ⟨b, o, ab, cb, an, cn, rfl, rfl, ⟨_, _, rfl, g1, g2⟩, e2 0 _ rfl, e2 1 _ rfl, e2 2 _ rfl⟩
theorem NameAt.cut {w : World} {a : Option Addr} {c : Nat} {n : List (List Part)} (h : NameAt w (.slice a n.length c) n) (N m : Nat) (hm : m = min n.length N) : NameAt w (.slice a m c) (n.take N) := by
  obtain ⟨a0, c0, he, h1, h2, h3⟩ := h
  simp only [Value.slice.injEq] at he
  obtain ⟨rfl, -, rfl⟩ := he
  have hl : (n.take N).length = m := by rw [List.length_take]; omega
  refine ⟨a, c, by rw [hl], by omega, h2, fun h0 => ?_⟩
  obtain ⟨b, o, rfl, hy⟩ := h3 (by omega)
  refine ⟨b, o, rfl, fun i r hr => hy i r ?_⟩
  rw [List.getElem?_take] at hr
  split at hr
  · exact hr
  · cases hr
theorem NameAt.shape {w : World} {v : Value} {n : List (List Part)} (h : NameAt w v n) : ∃ a c, v = .slice a n.length c := by
  obtain ⟨a, c, rfl, -⟩ := h
  exact ⟨a, c, rfl⟩
theorem FRow.at {K : Nat → Prop} {t : TypeId} {w : World} {base : Nat} {v : Value} {n : List (List Part)} (h : FRow K t w base v n) : NameAt w v n := by
  obtain ⟨us, h1, h2, h3⟩ := h
  obtain ⟨a, cap, he, hc, hm, hx⟩ := (Vals.of_own h1).1
  rw [h2] at he hc hx
  refine ⟨a, cap, he, hc, hm, fun h0 => ?_⟩
  obtain ⟨b, o, rfl, hy⟩ := hx h0
  refine ⟨b, o, rfl, fun i r hr => ?_⟩
  have hi : i < us.length := by rw [h2]; exact (List.getElem?_eq_some_iff.1 hr).1
  have hu : us[i]? = some us[i] := List.getElem?_eq_getElem hi
  exact ⟨_, hy i _ hu, (h3 i _ r hu hr).now⟩
theorem FRow.kept {K : Nat → Prop} {t : TypeId} {w : World} {base : Nat} {v : Value} {n : List (List Part)} (h : FRow K t w base v n) (K' : Nat → Prop) (hK : ∀ k, K' k → K k ∧ k < base) : Kept (fun W => NameAt W v n) K' w := fun W f => by
  obtain ⟨us, h1, h2, h3⟩ := h
  have hk := (Vals.of_own h1).2
  refine FRow.at (K := K') (t := t) (base := base) ⟨us, Go.Proofs.YthamenngccaijaaGreatDoor.ownsRow_fr h1 f (fun k hk2 hs => by have := (hk k hk2).1; have := (hK k hs).2; omega), h2, fun i u r hu hr => (h3 i u r hu hr).step f (fun k _ hs => .inr (hK k hs).1) (fun k hs => ?_)⟩
  rcases hs with hs | hs
  · exact .inl (.inl hs)
  · exact .inl (.inr (hK k hs).1)
end Go.Q

namespace Go.Proofs.YthamenngccaijaaGreatDoor
open Go Go.RowKit Go.Q Go.ChangeShapes Go.WideShapes Go.ChangeAt
theorem three_of {α : Type} {l : List α} (h : l.length = 3) : ∃ a b c, l = [a, b, c] := by
  match l, h with
  | [a, b, c], _ => exact ⟨a, b, c, rfl⟩
section
variable {H : Type} {enc : TypeId × Value → H} {w : World} {base fuel : Nat} {spare : Nat → Bool} {held : Bool} {cs : List Value} {x : DataW H × List MemPlace}
theorem rc46 : Tryz.prog.cellsOf 46 = 3 := by kernel_rfl
theorem rc22 : Tryz.prog.cellsOf 22 = 1 := by kernel_rfl
theorem rd_gen (h : DataW.trod enc Tryz.prog w base spare held fuel 46 cs = some x) : ∃ g : Gen, RGen w cs g := by
  obtain ⟨y0, y1, y2, n, _, hl, h0, h1, h2⟩ := Go.Deep.trod_struct3 Tryz.underlying46 h
  rw [rc46] at hl
  obtain ⟨c0, c1, c2, rfl⟩ := three_of hl
  have g0 : DataW.trod enc Tryz.prog w base spare held n 3 [c0] = some y0 := by rw [← show ([c0, c1, c2].drop 0).take (Tryz.prog.cellsOf 3) = [c0] from by rw [rc3]; rfl]; exact h0
  have g1 : DataW.trod enc Tryz.prog w base spare held n 23 [c1] = some y1 := by rw [← show ([c0, c1, c2].drop 1).take (Tryz.prog.cellsOf 23) = [c1] from by rw [rc23]; rfl]; exact h1
  have g2 : DataW.trod enc Tryz.prog w base spare held n 22 [c2] = some y2 := by rw [← show ([c0, c1, c2].drop 2).take (Tryz.prog.cellsOf 22) = [c2] from by rw [rc22]; rfl]; exact h2
  obtain ⟨k, e, -, -⟩ := DataW.trod_int Tryz.underlying3 g0
  obtain ⟨v, b, e1, hb⟩ := rd_bytes g1
  obtain ⟨u, m, e2, hm⟩ := rd_name g2
  simp only [List.cons.injEq, and_true] at e e1 e2
  subst e; subst e1; subst e2
  exact ⟨⟨k, b, m⟩, c1, c2, rfl, hb, hm⟩
theorem rd_gens (h : DataW.trod enc Tryz.prog w base spare held fuel 37 cs = some x) : ∃ v l, cs = [v] ∧ Gens w v l := by
  obtain ⟨a, cap, l, rfl, h1, h2, h3⟩ := rd_slice Tryz.underlying37 rc46 (by decide) (fun (g : Gen) ds => RGen w ds g) (fun n ds y hy _ => rd_gen hy) h
  refine ⟨_, l, rfl, a, cap, rfl, h1, h2, fun h0 => ?_⟩
  obtain ⟨b, o, rfl, hy⟩ := h3 h0
  refine ⟨b, o, rfl, fun i g hg => ?_⟩
  obtain ⟨ds, hd, hr, hj⟩ := hy i g hg
  exact ⟨ds, hd, hj, hr⟩
end
end Go.Proofs.YthamenngccaijaaGreatDoor

namespace Go.Q
theorem held_z {α : Type} {o : α} {l : List α} : (o :: l)[0]? = some o := rfl
theorem held_s {α : Type} {a o : α} {l : List α} {i : Nat} (h : l[i]? = some o) : (a :: l)[i + 1]? = some o := h
theorem held_at {α : Type} {o : α} {l : List α} {i : Nat} (h : l[i]? = some o) : l.toArray[i]? = some o := by simpa using h
end Go.Q
