/-
  Merged by program: XRSlice XGMore XWh1 XHeld2 XWh2 XKyT XIxOrder XIxIns XBag.
-/
import Derived.Test.YtehlipgmkinfbaaGreatDoorO0a
import Derived.Test.YtehlipgmkinfbaaGreatDoorO0i
import Derived.Test.YtehlipgmkinfbaaGreatDoorO0e
import Derived.Test.YtehlipgmkinfbaaGreatDoorO0j
import Derived.OrdersHeld
import Derived.Deep.RegionHeld
import Derived.Test.YtehlipgmkinfbaaGreatDoorO0h
import Derived.Sort.Walk0
import Derived.Deep.RegionHeld3
namespace Go.Q
open Go Go.RowKit
theorem Vals.piece {w : World} {a : Option Addr} {m cap : Nat} {l : List UInt8} (h : Bytes w (.slice a m cap) l) (i n : Nat) (hij : i + n ≤ l.length) (a' : Option Addr) (cap' : Nat) (ha : 0 < n → ∀ b o, a = some ⟨b, o, none⟩ → a' = some ⟨b, o + i, none⟩) (hc : n ≤ cap') (hm : cap' ≤ maxLen) : Bytes w (.slice a' n cap') ((l.drop i).take n) := by
  obtain ⟨a0, c0, he, -⟩ := Vals.form h
  simp only [Value.slice.injEq] at he
  obtain ⟨rfl, rfl, rfl⟩ := he
  have := Vals.sub h i (i + n) (by omega) hij a' cap' (fun h0 => ha (by omega)) (by omega) hm
  rw [show i + n - i = n from by omega] at this
  unfold Bytes Lib.byteCells
  rw [List.map_take, List.map_drop]
  exact this
end Go.Q
namespace Go.Proofs.YtehlipgmkinfbaaGreatDoor
open Go Go.RowKit Go.Q
set_option linter.unusedSimpArgs false
theorem slice_rest (a : Option Addr) (m cap : Nat) (hm : m ≤ cap) (i : Nat) (hi : i ≤ m) :
    ∃ A, (∀ w, (Instr.slice 38 (.slice a m cap) (some (.int .i64 (i : Int))) none none).run Tryz.prog w = .ok (.slice A (m - i) (cap - i)) w) ∧ (i < m → ∀ b o, a = some ⟨b, o, none⟩ → A = some ⟨b, o + i, none⟩) := by
  have h1 : (0 : Int) ≤ (i : Int) := by omega
  have h2 : (i : Int) ≤ (m : Int) := by omega
  have h3 : (m : Int) ≤ (cap : Int) := by omega
  by_cases hc : cap - i = 0
  · refine ⟨a, fun w => ?_, fun h => by omega⟩
    simp [go_sem, h1, h2, h3, hc, Tryz.underlying38]
    intro h; omega
  · refine ⟨a.map fun x => x.add i, fun w => ?_, fun h b o e => by rw [e]; unfold Addr.add; simp⟩
    simp [go_sem, h1, h2, h3, hc, Tryz.underlying38]
    intro h; omega
theorem bytes_rest {w : World} {a : Option Addr} {m cap : Nat} {l : List UInt8} (h : Bytes w (.slice a m cap) l) (i : Nat) (hi : i ≤ l.length) :
    ∃ A, (∀ w, (Instr.slice 38 (.slice a m cap) (some (.int .i64 (i : Int))) none none).run Tryz.prog w = .ok (.slice A (l.length - i) (cap - i)) w) ∧ ∀ W, Bytes W (.slice a m cap) l → Bytes W (.slice A (l.length - i) (cap - i)) (l.drop i) := by
  obtain ⟨a0, c0, he, hc, hm, -⟩ := Vals.form h
  simp only [Value.slice.injEq] at he
  obtain ⟨rfl, rfl, rfl⟩ := he
  obtain ⟨A, h1, h2⟩ := slice_rest a l.length cap hc i hi
  refine ⟨A, h1, fun W hW => ?_⟩
  have := hW.piece i (l.length - i) (by omega) A (cap - i) (fun h0 => h2 (by omega)) (by omega) (by omega)
  rwa [List.take_of_length_le (by rw [List.length_drop]; exact Nat.le_refl _)] at this
end Go.Proofs.YtehlipgmkinfbaaGreatDoor

namespace Go.Q
open Go Go.RowKit
section
variable {α : Type} {sz : Nat} {R : World → List Value → α → Prop}
theorem LAt.flat {w : World} {v : Value} {l : List α} (h : LAt sz R w v l) (h0 : 0 < l.length) : ∃ (b o c : Nat) (news : List Value), v = .slice (some ⟨b, o, none⟩) l.length c ∧ news.length = l.length * sz ∧ (∀ j u, news[j]? = some u → w.cell? ⟨b, o + j, none⟩ = some u) ∧ (∀ u ∈ news, ∃ cs x, R w cs x ∧ u ∈ cs) ∧ ∀ i x, l[i]? = some x → ∃ us, us.length = sz ∧ R w us x ∧ ∀ j u, us[j]? = some u → news[sz * i + j]? = some u := by
  obtain ⟨a, c, rfl, h1, h2, h3⟩ := h
  obtain ⟨b, o, rfl, hy⟩ := h3 h0
  clear h1 h2
  have main : ∀ (k : Nat), k ≤ l.length → ∃ news : List Value, news.length = k * sz ∧ (∀ j u, news[j]? = some u → w.cell? ⟨b, o + j, none⟩ = some u) ∧ (∀ u ∈ news, ∃ cs x, R w cs x ∧ u ∈ cs) ∧ ∀ i x, i < k → l[i]? = some x → ∃ us, us.length = sz ∧ R w us x ∧ ∀ j u, us[j]? = some u → news[sz * i + j]? = some u := by
    intro k
    induction k with
    | zero => exact fun _ => ⟨[], by simp, fun j u hu => by simp at hu, fun u hu => by simp at hu, fun i x hi => absurd hi (Nat.not_lt_zero _)⟩
    | succ k ih =>
      intro hk
      obtain ⟨news, g1, g2, g3, g4⟩ := ih (by omega)
      obtain ⟨x, hx⟩ : ∃ x, l[k]? = some x := ⟨_, List.getElem?_eq_getElem (by omega)⟩
      obtain ⟨cs, e1, e2, e3⟩ := hy k x hx
      refine ⟨news ++ cs, by rw [List.length_append, g1, e1, Nat.add_mul, Nat.one_mul], fun j u hu => ?_, fun u hu => ?_, fun i y hi hiy => ?_⟩
      · rcases Nat.lt_or_ge j news.length with q | q
        · rw [List.getElem?_append_left q] at hu
          exact g2 j u hu
        · rw [List.getElem?_append_right q] at hu
          have := e2 (j - news.length) u hu
          rw [show o + sz * k + (j - news.length) = o + j from by rw [g1, Nat.mul_comm k sz] at q ⊢; omega] at this
          exact this
      · rcases List.mem_append.1 hu with q | q
        · exact g3 u q
        · exact ⟨cs, x, e3, q⟩
      · rcases Nat.lt_or_ge i k with q | q
        · obtain ⟨us, f1, f2, f3⟩ := g4 i y q hiy
          refine ⟨us, f1, f2, fun j u hu => ?_⟩
          have := f3 j u hu
          rw [List.getElem?_append_left (List.getElem?_eq_some_iff.1 this).1]
          exact this
        · obtain rfl : i = k := by omega
          rw [hx] at hiy
          obtain rfl := Option.some.inj hiy
          refine ⟨cs, e1, e3, fun j u hu => ?_⟩
          rw [Nat.mul_comm, List.getElem?_append_right (by rw [g1]; exact Nat.le_add_right _ _), g1, Nat.add_sub_cancel_left]
          exact hu
  obtain ⟨news, g1, g2, g3, g4⟩ := main l.length (Nat.le_refl _)
  exact ⟨b, o, c, news, rfl, g1, g2, g3, fun i x hx => g4 i x (List.getElem?_eq_some_iff.1 hx).1 hx⟩
variable {K : Nat → Prop} {t : TypeId} {w : World} {base : Nat} {v : Value} {l : List α}
theorem GRow.addSlice {P : Program} {s : TypeId} {z : Value} {bytes : Nat} (hu0 : P.underlying s = some (.slice t)) (hinf : Info P t z sz bytes) (hzs : z.cells.size = sz) (hs0 : 0 < sz) (hby : bytes ≤ 128) (h : GRow sz R K t w base v l) (hb : base ≤ w.heap.size) {y : Value} {r : List α} (hy : LAt sz R w y r) (h0 : 0 < r.length) (h1 : ∀ W cs x, R W cs x → ∀ u ∈ cs, u.oneCell' = true) (hk : ∀ us x, R w us x → Kept (fun W => R W us x) (fun k => v.ownBlock = some k ∨ K k) w) (hn : l.length + r.length ≤ 109951162777) :
    ∃ a c w', (Builtin.append_ #[s, s] s #[v, y]).run P w = .ok (.slice a (l.length + r.length) c) w' ∧ GRow sz R K t w' base (.slice a (l.length + r.length) c) (l ++ r) ∧ Fr (fun k => v.ownBlock = some k) w w' ∧ (∀ k, (Value.slice a (l.length + r.length) c).ownBlock = some k → v.ownBlock = some k ∨ w.heap.size ≤ k) := by
  obtain ⟨cs, g1, g2⟩ := h
  have hcl : cs.length = l.length * sz := g1.1
  obtain ⟨b, o, cy, news, rfl, f1, f2, f3, f4⟩ := hy.flat h0
  obtain ⟨a, c, w', hrun, h4, F2, h5⟩ := append_gen hu0 hinf hzs hs0 hby g1 hb ⟨b, o, none⟩ r.length cy news f1 (fun j u hj => by
    rw [show (⟨b, o, none⟩ : Addr).add j = ⟨b, o + j, none⟩ from by unfold Addr.add; split <;> simp_all]
    exact f2 j u hj) (fun u hu => by
    obtain ⟨us, x, q1, q2⟩ := f3 u hu
    exact h1 _ _ _ q1 u q2) (by omega)
  have hst : ∀ (us : List Value) (y : α), Kept (fun W => R W us y) (fun k => v.ownBlock = some k ∨ K k) w → Kept (fun W => R W us y) (fun k => (Value.slice a (l.length + r.length) c).ownBlock = some k ∨ K k) w' := fun us y hq =>
    hq.step F2 (fun _ _ h => .inl h) (fun k hk => by
      rcases hk with h | h
      · rcases h5 k h with h | h
        · exact .inl (.inl h)
        · exact .inr h
      · exact .inl (.inr h))
  refine ⟨a, c, w', hrun, ⟨cs ++ news, by rw [List.length_append]; exact h4, fun i y hy => ?_⟩, F2, h5⟩
  rcases Nat.lt_or_ge i l.length with hi | hi
  · rw [List.getElem?_append_left hi] at hy
    obtain ⟨us', e1, e2, e3⟩ := g2 i y hy
    refine ⟨us', e1, fun j u hu => ?_, hst _ _ e3⟩
    have := e2 j u hu
    rw [List.getElem?_append_left (List.getElem?_eq_some_iff.1 this).1]
    exact this
  · rw [List.getElem?_append_right hi] at hy
    obtain ⟨us, e1, e2, e3⟩ := f4 _ y hy
    refine ⟨us, e1, fun j u hu => ?_, hst _ _ (hk us y e2)⟩
    have := e3 j u hu
    have hc : cs.length = sz * l.length := by rw [hcl, Nat.mul_comm]
    have hm : sz * i = sz * l.length + sz * (i - l.length) := by rw [← Nat.mul_add]; congr 1; omega
    rw [hm, List.getElem?_append_right (by rw [hc]; omega), hc, show sz * l.length + sz * (i - l.length) + j - sz * l.length = sz * (i - l.length) + j from by omega]
    exact this
end
end Go.Q

namespace Go.Proofs.YtehlipgmkinfbaaGreatDoor
open Go Go.RowKit Go.Q
set_option linter.unusedSimpArgs false
set_option maxRecDepth 20000 in
set_option maxHeartbeats 1000000 in
theorem wTrim_any (v : Value) (l : List UInt8) (w : World) (h : Bytes w v l) :
    Calls Tryz.prog 75 #[v] w fun e w' => (∃ a c, e = .returned (.slice a (trimS l).length c) ∧ Bytes w (.slice a (trimS l).length c) (trimS l)) ∧ Fr (fun _ => False) w w' := by
  have H := Lib.hid h
  obtain ⟨a0, c0, rfl, -⟩ := h.form
  clear h
  go_enter Tryz.func75, Tryz.ntmps75
  go_wp2_with fail
  go_loopg [0] l.length (fun g u wr => ∃ (s : List UInt8) (a : Option Addr) (c : Nat), g = s.length ∧ u = .slice a s.length c ∧ Hid (trimS s = trimS l) ∧ Hid (Bytes w (.slice a s.length c) s) ∧ Fr (fun _ => False) w wr)
  case atStart => exact ⟨l, a0, c0, rfl, rfl, Lib.hid rfl, H, Fr.refl _⟩
  case round =>
    obtain ⟨s, a, c, hg, rfl, HT, HB, F⟩ := hrel
    have HG := Lib.hid hg
    have HF := Lib.hid F
    clear hg F
    cases s with
    | nil =>
      have HE := Lib.hid (show trimS l = [] from HT.out.symm)
      simp only [List.length_nil] at *
      go_wp2_with fail
      go_ret
      rw [HE.out]
      exact ⟨⟨a, c, rfl, HB.out⟩, HF.out⟩
    | cons x t =>
      obtain ⟨_, _, he, hcap, hmax, hx⟩ := Vals.form HB.out
      simp only [Value.slice.injEq, true_and] at he
      obtain ⟨rfl, rfl⟩ := he
      obtain ⟨b, o, rfl, hy⟩ := hx (by simp)
      have e0 := HF.out.cell (hy 0 x rfl) (fun h => h)
      simp only [Nat.add_zero] at e0
      obtain ⟨n, hn⟩ : ∃ n : Nat, n = (x :: t).length := ⟨_, rfl⟩
      have HN := Lib.hid hn
      have hpos : 0 < (n : Int) := by rw [hn, List.length_cons]; omega
      have hxs := hy 0 x rfl
      rw [← hn] at hcap ⊢
      have HB0 := Lib.hid HB.out
      rw [← hn] at HB0
      clear hy hx hxs HB hn
      by_cases h0 : x = 0
      · have q1 : ((x.toNat : Int) == 0) = true := by rw [h0]; rfl
        obtain ⟨A, hrun, hrest⟩ := bytes_rest HB0.out 1 (by simp)
        simp only [List.length_cons, Nat.add_sub_cancel] at hrest
        have HR := Lib.hid (hrest w HB0.out)
        simp only [List.drop_succ_cons, List.drop_zero] at HR
        have HT2 := Lib.hid (show trimS t = trimS l from by rw [← HT.out]; unfold trimS; rw [if_pos h0]; cases t <;> rfl)
        have hl1 : (x :: t).length - 1 = t.length := by simp
        have hrun2 : ∀ W : World, (Instr.slice 38 (.slice (some ⟨b, o, none⟩) n c) (some (.int .i64 1)) none none).run Tryz.prog W = .ok (.slice A t.length (c - 1)) W := fun W => by
          rw [← hl1]
          exact hrun W
        clear hrun hrest h0 hl1 HB0 HT
        go_wp2_with fail
        go_roundg t.length
        case measure => rw [HG.out]; simp
        case rel => exact ⟨t, A, c - 1, rfl, rfl, HT2, HR, HF.out⟩
      · have q1 : ((x.toNat : Int) == 0) = false := by
          have : x.toNat ≠ 0 := fun e => h0 (UInt8.toNat_inj.1 (by simpa using e))
          simp [this]
        have HE := Lib.hid (show trimS l = x :: t from by rw [← HT.out]; unfold trimS; rw [if_neg h0])
        clear h0
        go_wp2_with fail
        go_ret
        rw [HE.out, ← HN.out]
        exact ⟨⟨_, c, rfl, HB0.out⟩, HF.out⟩
set_option maxRecDepth 20000 in
set_option maxHeartbeats 2000000 in
theorem wMade_any (b : Bool) (v : Value) (l : List UInt8) (w : World) (h : Bytes w v l) (hl : l.length ≤ 10000000000) :
    Calls Tryz.prog 73 #[.bool b, v] w fun e w' => (∃ a c, e = .returned (.agg #[.bool (madeS ⟨b, l⟩).below, .slice a (trimS l).length c]) ∧ Kept (fun W => Bytes W (.slice a (trimS l).length c) (trimS l)) (fun k => k < w.heap.size) w') ∧ Fr (fun _ => False) w w' := by
  obtain ⟨z, hz⟩ : ∃ z, z = w.heap.size := ⟨_, rfl⟩
  have HZ := Lib.hid hz
  have F0 : Fr (fun _ => False) w (w.alloc (.cells #[.bool false, .slice none 0 0] 40)) := (Fr.refl w).alloc _
  have D := Blk.new w 40 #[.bool false, .slice none 0 0]
  rw [← hz] at D
  have HT := Lib.hid (wTrim_any v l _ (h.old F0))
  have HF0 := Lib.hid F0
  have hs0 : w.heap.size + 1 = (w.alloc (.cells #[.bool false, .slice none 0 0] 40)).heap.size := by rw [World.size_alloc]
  obtain ⟨s, hs⟩ : ∃ s, s = trimS l := ⟨_, rfl⟩
  have hsl : s.length ≤ 10000000000 := by have := trimS_le l; rw [← hs] at this; omega
  have hmb : (madeS ⟨b, l⟩).below = (b && decide (0 < s.length)) := by rw [hs]; rfl
  rw [← hs] at HT
  rw [← hs, hmb]
  obtain ⟨n, hn⟩ : ∃ n, n = s.length := ⟨_, rfl⟩
  rw [← hn] at HT hsl ⊢
  have HN := Lib.hid hn
  have HS0 := Lib.hid hs0
  obtain ⟨a0, c0, rfl, -⟩ := h.form
  clear hz F0 hs hmb h hn hs0
  go_enter Tryz.func73, Tryz.ntmps73
  go_upto_region 1 with fail
  rw [← HZ.out]
  generalize (w.alloc (.cells #[.bool false, .slice none 0 0] 40)) = w0 at *
  go_wp2_with fail
  refine HT.out.mono ?_
  rintro e w1 ⟨⟨a1, c1, rfl, hb1⟩, F1⟩
  have HC := Lib.hid (cloneByte_any _ s w1 (hb1.old F1) (by have := HN.out; omega))
  have HF1 := Lib.hid F1
  clear HT hb1 F1
  go_wp2_with fail
  refine HC.out.mono ?_
  rintro e w2 ⟨⟨u, rfl, hu⟩, F2⟩
  obtain ⟨a2, m, c2, rfl, rfl⟩ := own_shape hu
  have hk : Kept (fun W => Bytes W (.slice a2 s.length c2) s) (fun k => k < w1.heap.size) w2 := fun W f => (Vals.of_own (ownsRow_fr hu f (fun k hk hl => by have := (hu.lt k hk).1; omega))).1
  rw [← HN.out] at hk ⊢
  have hF := HF0.out.trans (HF1.out.trans F2)
  have D2 := D.fr (HF1.out.trans F2) (fun h => h)
  have hsz := HF1.out.size
  have d0 := D2.cell 0
  have d1 := D2.cell 1
  have f0 := D2.frozen 0
  have f1 := D2.frozen 1
  simp only [List.getElem?_toArray, List.getElem?_cons_succ, List.getElem?_cons_zero] at d0 d1
  have key : ∀ c : Bool, Blk ((w2.setCell ⟨z, 0, none⟩ (.bool c)).setCell ⟨z, 1, none⟩ (.slice a2 n c2)) z 40 #[.bool c, .slice a2 n c2] ∧ Kept (fun W => Bytes W (.slice a2 n c2) s) (fun k => k < w.heap.size) ((w2.setCell ⟨z, 0, none⟩ (.bool c)).setCell ⟨z, 1, none⟩ (.slice a2 n c2)) ∧ Fr (fun _ => False) w ((w2.setCell ⟨z, 0, none⟩ (.bool c)).setCell ⟨z, 1, none⟩ (.slice a2 n c2)) := fun c => by
    have D5 := set2 D2 (.bool c) (.slice a2 n c2)
    exact ⟨D5.1, hk.step D5.2 (fun k hk e => by have := HZ.out; have := HS0.out; omega) (fun k hk => by have := HS0.out; exact .inl (by omega)), hF.trans' D5.2 (fun i hi e => by have := HZ.out; omega)⟩
  have HKEY := Lib.hid key
  clear HC F2 hu hk hF D D2 hsz key HF0 HF1
  cases b with
  | false =>
    have n0 := (HKEY.out false).1.cell 0
    have n1 := (HKEY.out false).1.cell 1
    simp only [List.getElem?_toArray, List.getElem?_cons_succ, List.getElem?_cons_zero] at n0 n1
    go_wp2_with fail
    exact bodyPost_ret (v := .agg #[.bool false, .slice a2 n c2]) (by simp [results, Tryz.results73, go_sem, n0, n1]) rfl ⟨⟨a2, c2, rfl, (HKEY.out false).2.1⟩, (HKEY.out false).2.2⟩
  | true =>
    rcases Nat.eq_zero_or_pos n with h0 | h0
    · have n0 := (HKEY.out false).1.cell 0
      have n1 := (HKEY.out false).1.cell 1
      simp only [List.getElem?_toArray, List.getElem?_cons_succ, List.getElem?_cons_zero] at n0 n1
      have q1 : decide (0 < n) = false := decide_eq_false (by omega)
      have q2 : ¬ (0 : Int) < (n : Int) := by omega
      have HK := Lib.hid (HKEY.out false)
      clear HKEY h0
      go_wp2_with fail
      refine bodyPost_ret (v := .agg #[.bool false, .slice a2 n c2]) (by simp [results, Tryz.results73, go_sem, n0, n1]) rfl ⟨⟨a2, c2, ?_, HK.out.2.1⟩, HK.out.2.2⟩
      rw [q1]
      rfl
    · have n0 := (HKEY.out true).1.cell 0
      have n1 := (HKEY.out true).1.cell 1
      simp only [List.getElem?_toArray, List.getElem?_cons_succ, List.getElem?_cons_zero] at n0 n1
      have q1 : decide (0 < n) = true := decide_eq_true h0
      have q2 : (0 : Int) < (n : Int) := by omega
      have HK := Lib.hid (HKEY.out true)
      clear HKEY
      go_wp2_with fail
      refine bodyPost_ret (v := .agg #[.bool true, .slice a2 n c2]) (by simp [results, Tryz.results73, go_sem, n0, n1]) rfl ⟨⟨a2, c2, ?_, HK.out.2.1⟩, HK.out.2.2⟩
      rw [q1]
      rfl
set_option maxRecDepth 20000 in
theorem wSizes_any (v u : Value) (a b : List UInt8) (w : World) (h : Bytes w v a) (hu : Bytes w u b) (ha : a.length ≤ 1099511627776) (hb : b.length ≤ 1099511627776) :
    Calls Tryz.prog 96 #[v, u] w fun e w' => e = .returned (.int .i64 (sizesS a b)) ∧ Fr (fun _ => False) w w' := by
  have HC := Lib.hid (compare_any v u a b w h hu ha hb)
  obtain ⟨av, cv, rfl, -⟩ := h.form
  obtain ⟨au, cu, rfl, -⟩ := hu.form
  have hz : sizesS a b = if a.length = b.length then cmpS a b else if a.length < b.length then -1 else 1 := rfl
  rw [hz]
  obtain ⟨n, hn⟩ : ∃ n, n = a.length := ⟨_, rfl⟩
  obtain ⟨m, hm⟩ : ∃ n, n = b.length := ⟨_, rfl⟩
  rw [← hn, ← hm] at HC ⊢
  clear h hu ha hb hz hn hm
  by_cases h1 : n = m
  · subst h1
    go_enter Tryz.func96, Tryz.ntmps96
    go_wp2_with fail
    refine HC.out.mono ?_
    rintro e w1 ⟨rfl, F1⟩
    go_wp2_with fail
    go_ret
    exact ⟨rfl, F1⟩
  · rw [if_neg h1]
    have q1 : ((n : Int) == (m : Int)) = false := beq_eq_false_iff_ne.2 (by omega)
    have q2 : ((n : Int) != (m : Int)) = true := by simp [q1, bne]
    by_cases h2 : n < m
    · have q3 : (n : Int) < (m : Int) := by omega
      rw [if_pos h2]
      clear h1
      go_enter Tryz.func96, Tryz.ntmps96
      go_wp2_with fail
      go_ret
      exact ⟨rfl, Fr.refl _⟩
    · have q3 : ¬ (n : Int) < (m : Int) := by omega
      rw [if_neg h2]
      clear h1
      go_enter Tryz.func96, Tryz.ntmps96
      go_wp2_with fail
      go_ret
      exact ⟨rfl, Fr.refl _⟩
end Go.Proofs.YtehlipgmkinfbaaGreatDoor

namespace Go.Q
open Go
section
variable {P : Program} {ops : Array Oper} {Q : Exit → Act → World → Prop} {md : Region.Mode} {k1 k2 : Nat} {C1 C2 : World → Prop}
def Two (k1 k2 : Nat) (C1 C2 : World → Prop) (L : Array Bool) (w : World) : Prop := (L.getD k1 true = false → C1 w) ∧ (L.getD k2 true = false → C2 w)
def wpAny2 (P : Program) (md : Region.Mode) (ops : Array Oper) (Q : Exit → Act → World → Prop) (k1 k2 : Nat) (C1 C2 : World → Prop) : Nat → Array Bool → Act → World → Prop
  | 0, listed, a, w => Region.ready md ops listed = [] ∧ Q .normal a w
  | f + 1, listed, a, w => (Region.ready md ops listed = [] → Q .normal a w) ∧
    ∀ i ∈ Region.ready md ops listed, wpOp P ops Q i (fun b u => Two k1 k2 C1 C2 (listed.setIfInBounds i true) u ∧ wpAny2 P md ops Q k1 k2 C1 C2 f (listed.setIfInBounds i true) b u) a w
theorem wpAny_of2 : ∀ (f : Nat) (listed : Array Bool) (a : Act) (w : World), wpAny2 P md ops Q k1 k2 C1 C2 f listed a w → wpAny P md ops Q f listed a w
  | 0, _, _, _, h => h
  | f + 1, _, _, _, h => ⟨h.1, fun i hi => wpOp_mono (fun b u g => wpAny_of2 f _ b u g.2) (h.2 i hi)⟩
def waitOn (md : Region.Mode) (ops : Array Oper) (k i : Nat) : Bool := match ops[k]? with | some o => o.after.any (fun e => Region.binds md e && e.on == i) | none => false
theorem waitOn_spec {k i : Nat} (h : waitOn md ops k i = true) {o : Oper} (hk : ops[k]? = some o) : ∃ e ∈ o.after, Region.binds md e = true ∧ e.on = i := by
  unfold waitOn at h
  rw [hk] at h
  obtain ⟨e, he, hb⟩ := Array.any_eq_true'.1 h
  rw [Bool.and_eq_true, beq_iff_eq] at hb
  exact ⟨e, he, hb.1, hb.2⟩
theorem two_more {L : Array Bool} {w : World} (i : Nat) (h : Two k1 k2 C1 C2 L w) : Two k1 k2 C1 C2 (L.setIfInBounds i true) w := by
  have key : ∀ k, (L.setIfInBounds i true).getD k true = false → L.getD k true = false := fun k hk => by
    by_cases e : i = k
    · subst e
      rcases Nat.lt_or_ge i L.size with q | q
      · simp [q] at hk
      · simp at hk ⊢
    · rw [getD_set_ne true e] at hk; exact hk
  exact ⟨fun e => h.1 (key _ e), fun e => h.2 (key _ e)⟩
theorem wpAny2_take1 {i k : Nat} {C : World → Prop} {oi : Oper} {v : Value} (hi : ops[i]? = some oi) (hsel : ∀ (j : Nat) (o : Oper) cs b, ops[j]? = some o → o.op ≠ .select cs b)
    (hQ : ∀ c a w, Q (.panic c) (a.put oi.dst v) w → Q (.panic c) a w) (hw : waitOn md ops k i = true) (hN : k1 ≠ i ∧ k2 ≠ i) (hC : ∀ L w, L.getD k true = false → Two k1 k2 C1 C2 L w → C w) :
    ∀ (f : Nat) (listed : Array Bool) (a : Act) (w : World),
      (∀ j oj, ops[j]? = some oj → j ≠ i → listed.getD j true = false → (∀ e ∈ oj.after, Region.binds md e = true → e.on ≠ i) → oi.apart ops oj = true) →
      i ∈ Region.ready md ops listed → listed.getD k true = false → YieldsIf P ops C oi v a → Two k1 k2 C1 C2 listed w →
      wpAny2 P md ops Q k1 k2 C1 C2 f (listed.setIfInBounds i true) (a.put oi.dst v) w → wpAny2 P md ops Q k1 k2 C1 C2 (f + 1) listed a w := by
  intro f
  induction f with
  | zero =>
    intro listed a w _ hr hk hy hS H
    refine ⟨fun h => (by rw [h] at hr; cases hr), fun j hj => ?_⟩
    by_cases hji : j = i
    · subst hji; exact hy.wpOp hi (hC _ _ hk hS) ⟨two_more _ hS, H⟩
    · have := ready_mono hj hji
      rw [H.1] at this
      cases this
  | succ f ih =>
    intro listed a w hfree hr hk hy hS H
    refine ⟨fun h => (by rw [h] at hr; cases hr), fun j hj => ?_⟩
    by_cases hji : j = i
    · subst hji; exact hy.wpOp hi (hC _ _ hk hS) ⟨two_more _ hS, H⟩
    · have h1 := H.2 j (ready_mono hj hji)
      obtain ⟨hjun, oj, hoj, hall⟩ := mem_ready.1 hj
      have hun : listed.getD i true = false := (mem_ready.1 hr).1
      have hnot : ∀ e ∈ oj.after, Region.binds md e = true → e.on ≠ i := fun e he hb heq => by
        have g1 := hall e he hb
        have g0 := hun
        rw [heq] at g1
        rcases Nat.lt_or_ge i listed.size with h' | h'
        · simp [h'] at g0 g1; rw [g0] at g1; cases g1
        · simp [Array.getElem?_eq_none h'] at g1
      have hjk : j ≠ k := fun e => by
        subst e
        obtain ⟨e, he, hb, hon⟩ := waitOn_spec hw hoj
        exact hnot e he hb hon
      have hk2 : (listed.setIfInBounds j true).getD k true = false := by rw [getD_set_ne true hjk]; exact hk
      have h2 := wpOp_putIf hoj (hfree j oj hoj hji hjun hnot) (fun cs b => hsel i oi cs b hi) (fun cs b => hsel j oj cs b hoj) hQ hy h1
      have hfree' : ∀ k ok, ops[k]? = some ok → k ≠ i → (listed.setIfInBounds j true).getD k true = false → (∀ e ∈ ok.after, Region.binds md e = true → e.on ≠ i) → oi.apart ops ok = true := fun k ok hk hki hu hno => by
        refine hfree k ok hk hki ?_ hno
        by_cases hjk : j = k
        · subst hjk; exact hjun
        · rw [getD_set_ne true hjk] at hu; exact hu
      have back : ∀ u, Two k1 k2 C1 C2 ((listed.setIfInBounds i true).setIfInBounds j true) u → k1 ≠ i → k2 ≠ i → Two k1 k2 C1 C2 (listed.setIfInBounds j true) u := fun u h n1 n2 => by
        rw [← Array.setIfInBounds_comm _ _ hji] at h
        exact ⟨fun e => h.1 (by rw [getD_set_ne true (Ne.symm n1)]; exact e), fun e => h.2 (by rw [getD_set_ne true (Ne.symm n2)]; exact e)⟩
      refine wpOp_mono (fun b u g => ⟨back u g.2.1 hN.1 hN.2, ih (listed.setIfInBounds j true) b u hfree' (ready_mono hr (Ne.symm hji)) hk2 g.1 (back u g.2.1 hN.1 hN.2) ?_⟩) h2
      rw [Array.setIfInBounds_comm _ _ hji]
      exact g.2.2
theorem wpAny2_takeA {i : Nat} {oi : Oper} {v : Value} {f : Nat} {listed : Array Bool} {a : Act} {w : World} (hi : ops[i]? = some oi)
    (hs : Region.noSelect ops = true) (hf : Region.free md ops listed i = true) (hr : (Region.ready md ops listed).contains i = true) (hw : waitOn md ops k1 i = true) (hN : k1 ≠ i ∧ k2 ≠ i) (hk : listed.getD k1 true = false)
    (hQ : ∀ c a w, Q (.panic c) (a.put oi.dst v) w → Q (.panic c) a w) (hy : YieldsIf P ops C1 oi v a) (hS : Two k1 k2 C1 C2 listed w)
    (h : Two k1 k2 C1 C2 (listed.setIfInBounds i true) w → wpAny2 P md ops Q k1 k2 C1 C2 f (listed.setIfInBounds i true) (a.put oi.dst v) w) : wpAny2 P md ops Q k1 k2 C1 C2 (f + 1) listed a w :=
  wpAny2_take1 hi (Region.noSelect_spec hs) hQ hw hN (fun _ _ e g => g.1 e) f listed a w (Region.free_spec hi hf) (by simpa using hr) hk hy hS (h (two_more _ hS))
theorem wpAny2_takeB {i : Nat} {oi : Oper} {v : Value} {f : Nat} {listed : Array Bool} {a : Act} {w : World} (hi : ops[i]? = some oi)
    (hs : Region.noSelect ops = true) (hf : Region.free md ops listed i = true) (hr : (Region.ready md ops listed).contains i = true) (hw : waitOn md ops k2 i = true) (hN : k1 ≠ i ∧ k2 ≠ i) (hk : listed.getD k2 true = false)
    (hQ : ∀ c a w, Q (.panic c) (a.put oi.dst v) w → Q (.panic c) a w) (hy : YieldsIf P ops C2 oi v a) (hS : Two k1 k2 C1 C2 listed w)
    (h : Two k1 k2 C1 C2 (listed.setIfInBounds i true) w → wpAny2 P md ops Q k1 k2 C1 C2 f (listed.setIfInBounds i true) (a.put oi.dst v) w) : wpAny2 P md ops Q k1 k2 C1 C2 (f + 1) listed a w :=
  wpAny2_take1 hi (Region.noSelect_spec hs) hQ hw hN (fun _ _ e g => g.2 e) f listed a w (Region.free_spec hi hf) (by simpa using hr) hk hy hS (h (two_more _ hS))
def All2 (P : Program) (md : Region.Mode) (ops : Array Oper) (Q : Exit → Act → World → Prop) (k1 k2 : Nat) (C1 C2 : World → Prop) (f : Nat) (listed : Array Bool) (a : Act) (w : World) (rs : List Nat) : Prop :=
  ∀ i ∈ rs, wpOp P ops Q i (fun b u => Two k1 k2 C1 C2 (listed.setIfInBounds i true) u ∧ wpAny2 P md ops Q k1 k2 C1 C2 f (listed.setIfInBounds i true) b u) a w
theorem All2.nil {f : Nat} {listed : Array Bool} {a : Act} {w : World} : All2 P md ops Q k1 k2 C1 C2 f listed a w [] := fun _ h => by cases h
theorem All2.cons {f : Nat} {listed : Array Bool} {a : Act} {w : World} {i : Nat} {o : Oper} {rs : List Nat} (ho : ops[i]? = some o)
    (h : ∀ K : Act → World → Prop, Shut (∀ a w, Two k1 k2 C1 C2 (listed.setIfInBounds i true) w → (Two k1 k2 C1 C2 (listed.setIfInBounds i true) w → wpAny2 P md ops Q k1 k2 C1 C2 f (listed.setIfInBounds i true) a w) → K a w) → if Region.wanted o (yielded ops a.tmps) = true then Oper.wp P o a w K Q else K (a.put o.dst undef) w)
    (hs : All2 P md ops Q k1 k2 C1 C2 f listed a w rs) : All2 P md ops Q k1 k2 C1 C2 f listed a w (i :: rs) := fun j hj => by
  rcases List.mem_cons.1 hj with rfl | hj
  · exact wpOp_step ho (fun K hK => h K (fun a w hS hW => hK a w ⟨hS, hW hS⟩))
  · exact hs j hj
theorem wpAny2_ready {rs : List Nat} {f : Nat} {listed : Array Bool} {a : Act} {w : World} (hr : Region.ready md ops listed = rs) (hne : rs ≠ [])
    (h : All2 P md ops Q k1 k2 C1 C2 f listed a w rs) : wpAny2 P md ops Q k1 k2 C1 C2 (f + 1) listed a w :=
  ⟨fun e => absurd (hr.symm.trans e) hne, fun i hi => h i (hr ▸ hi)⟩
theorem wpAny2_done {listed : Array Bool} {a : Act} {w : World} (hr : Region.ready md ops listed = []) (h : Q .normal a w) : ∀ f, wpAny2 P md ops Q k1 k2 C1 C2 f listed a w
  | 0 => ⟨hr, h⟩
  | _ + 1 => ⟨fun _ => h, by rw [hr]; simp⟩
theorem wp_region_2 (k1 k2 : Nat) {id : Nat} {a : Act} {w : World} (hm : P.follows .mixedOrders = true) (h1 : C1 w.drew) (h2 : C2 w.drew)
    (h : Two k1 k2 C1 C2 (Array.replicate ops.size false) w.drew → wpAny2 P .any ops Q k1 k2 C1 C2 ops.size (Array.replicate ops.size false) a w.drew) : (Code.region id ops true).wp P Q a w :=
  wp_region_any hm (wpAny_of2 _ _ _ _ (h ⟨fun _ => h1, fun _ => h2⟩))
end
end Go.Q

namespace Go.Proofs.YtehlipgmkinfbaaGreatDoor
open Go Go.RowKit Go.Q
set_option linter.unusedSimpArgs false
theorem wMade_as (b : Bool) (v : Value) (l : List UInt8) (x : NumT) (hx : x = madeS ⟨b, l⟩) (w : World) (h : Bytes w v l) (hl : l.length ≤ 10000000000) :
    Calls Tryz.prog 73 #[.bool b, v] w fun e w' => (∃ a c, e = .returned (.agg #[.bool x.below, .slice a x.size.length c]) ∧ Kept (fun W => Bytes W (.slice a x.size.length c) x.size) (fun k => k < w.heap.size) w') ∧ Fr (fun _ => False) w w' := by
  subst hx
  exact wMade_any b v l w h hl
set_option maxRecDepth 100000 in
set_option maxHeartbeats 4000000 in
theorem wCompare_any (b1 b2 : Bool) (v u : Value) (s1 s2 : List UInt8) (w : World) (h : Bytes w v s1) (hu : Bytes w u s2) (h1 : s1.length ≤ 10000000000) (h2 : s2.length ≤ 10000000000) :
    Calls Tryz.prog 70 #[.agg #[.bool b1, v], .agg #[.bool b2, u]] w fun e w' => e = .returned (.int .i64 (numC ⟨b1, s1⟩ ⟨b2, s2⟩)) ∧ Fr (fun _ => False) w w' := by
  rw [numC_made]
  obtain ⟨x, hx⟩ : ∃ x, x = madeS ⟨b1, s1⟩ := ⟨_, rfl⟩
  obtain ⟨y, hy⟩ : ∃ y, y = madeS ⟨b2, s2⟩ := ⟨_, rfl⟩
  rw [← hx, ← hy]
  have hxl : x.size.length ≤ 10000000000 := by rw [hx]; have := trimS_le s1; show (trimS s1).length ≤ _; omega
  have hyl : y.size.length ≤ 10000000000 := by rw [hy]; have := trimS_le s2; show (trimS s2).length ≤ _; omega
  obtain ⟨r, hr⟩ : ∃ r, r = (if x.below && !y.below then (-1 : Int) else if !x.below && y.below then 1 else if x.below then sizesS y.size x.size else sizesS x.size y.size) := ⟨_, rfl⟩
  have HR := Lib.hid hr
  rw [← hr]
  clear hr
  obtain ⟨a1, c1, rfl, -⟩ := h.form
  obtain ⟨a2, c2, rfl, -⟩ := hu.form
  obtain ⟨z, hz⟩ : ∃ z, z = w.heap.size := ⟨_, rfl⟩
  have HZ := Lib.hid hz
  have F0 : Fr (fun _ => False) w ((w.alloc (.cells #[.bool b1, .slice a1 s1.length c1] 40)).alloc (.cells #[.bool b2, .slice a2 s2.length c2] 40)) := ((Fr.refl w).alloc _).alloc _
  have BA := (Blk.new w 40 #[.bool b1, .slice a1 s1.length c1]).alloc (.cells #[.bool b2, .slice a2 s2.length c2] 40)
  have BB := Blk.new (w.alloc (.cells #[.bool b1, .slice a1 s1.length c1] 40)) 40 #[.bool b2, .slice a2 s2.length c2]
  rw [World.size_alloc, ← hz] at BB
  rw [← hz] at BA
  have HM1 := Lib.hid (fun W (F : Fr (fun _ => False) ((w.alloc (.cells #[.bool b1, .slice a1 s1.length c1] 40)).alloc (.cells #[.bool b2, .slice a2 s2.length c2] 40)) W) => wMade_as b1 _ s1 x hx W ((h.old F0).old F) h1)
  have HM2 := Lib.hid (fun W (F : Fr (fun _ => False) ((w.alloc (.cells #[.bool b1, .slice a1 s1.length c1] 40)).alloc (.cells #[.bool b2, .slice a2 s2.length c2] 40)) W) => wMade_as b2 _ s2 y hy W ((hu.old F0).old F) h2)
  have HS0 := Lib.hid (show ((w.alloc (.cells #[.bool b1, .slice a1 s1.length c1] 40)).alloc (.cells #[.bool b2, .slice a2 s2.length c2] 40)).heap.size = z + 2 from by rw [World.size_alloc, World.size_alloc, hz])
  have HF0 := Lib.hid F0
  clear h hu hz F0 hx hy
  go_enter Tryz.func70, Tryz.ntmps70
  go_upto_region 1 with fail
  rw [← HZ.out]
  generalize ((w.alloc (.cells #[.bool b1, .slice a1 s1.length c1] 40)).alloc (.cells #[.bool b2, .slice a2 s2.length c2] 40)) = w0 at *
  replace BA := BA.drew
  replace BB := BB.drew
  have G : Fr (fun _ => False) w0 w0.drew := (Fr.refl w0).drew
  refine wp_region_2 10 11 (C1 := fun w' => ∀ j, w'.cell? ⟨z, j, none⟩ = (#[.bool b1, .slice a1 s1.length c1] : Array Value)[j]?) (C2 := fun w' => ∀ j, w'.cell? ⟨z + 1, j, none⟩ = (#[.bool b2, .slice a2 s2.length c2] : Array Value)[j]?) (by kernel_rfl) (BA.cell) (BB.cell) (fun hTwo => ?_)
  refine wpAny2_takeA (i := 0) (oi := _) (v := ?_) rfl (by kernel_rfl) (by kernel_rfl) (by kernel_rfl) (by kernel_rfl) (by decide) (by kernel_rfl) (fun _ _ _ h => h) (Or.inl ⟨by rfl, ?_⟩) (by assumption) (fun hT2 => ?_)
  rotate_left
  · (intro W hSw; (try dsimp only at hSw); go_simp; try with_reducible rfl)
  replace hTwo := hT2
  clear hT2
  (try simp only [Act.put, List.setIfInBounds_toArray, List.set_cons_zero, List.set_cons_succ])
  refine wpAny2_takeA (i := 1) (oi := _) (v := ?_) rfl (by kernel_rfl) (by kernel_rfl) (by kernel_rfl) (by kernel_rfl) (by decide) (by kernel_rfl) (fun _ _ _ h => h) (Or.inl ⟨by rfl, ?_⟩) (by assumption) (fun hT2 => ?_)
  rotate_left
  · (intro W hSw; (try dsimp only at hSw); go_simp; try with_reducible rfl)
  replace hTwo := hT2
  clear hT2
  (try simp only [Act.put, List.setIfInBounds_toArray, List.set_cons_zero, List.set_cons_succ])
  refine wpAny2_takeA (i := 2) (oi := _) (v := ?_) rfl (by kernel_rfl) (by kernel_rfl) (by kernel_rfl) (by kernel_rfl) (by decide) (by kernel_rfl) (fun _ _ _ h => h) (Or.inl ⟨by rfl, ?_⟩) (by assumption) (fun hT2 => ?_)
  rotate_left
  · (intro W hSw; (try dsimp only at hSw); go_simp; try with_reducible rfl)
  replace hTwo := hT2
  clear hT2
  (try simp only [Act.put, List.setIfInBounds_toArray, List.set_cons_zero, List.set_cons_succ])
  refine wpAny2_takeA (i := 3) (oi := _) (v := ?_) rfl (by kernel_rfl) (by kernel_rfl) (by kernel_rfl) (by kernel_rfl) (by decide) (by kernel_rfl) (fun _ _ _ h => h) (Or.inl ⟨by rfl, ?_⟩) (by assumption) (fun hT2 => ?_)
  rotate_left
  · (intro W hSw; (try dsimp only at hSw); go_simp; try with_reducible rfl)
  replace hTwo := hT2
  clear hT2
  (try simp only [Act.put, List.setIfInBounds_toArray, List.set_cons_zero, List.set_cons_succ])
  refine wpAny2_takeB (i := 5) (oi := _) (v := ?_) rfl (by kernel_rfl) (by kernel_rfl) (by kernel_rfl) (by kernel_rfl) (by decide) (by kernel_rfl) (fun _ _ _ h => h) (Or.inl ⟨by rfl, ?_⟩) (by assumption) (fun hT2 => ?_)
  rotate_left
  · (intro W hSw; (try dsimp only at hSw); go_simp; try with_reducible rfl)
  replace hTwo := hT2
  clear hT2
  (try simp only [Act.put, List.setIfInBounds_toArray, List.set_cons_zero, List.set_cons_succ])
  refine wpAny2_takeB (i := 6) (oi := _) (v := ?_) rfl (by kernel_rfl) (by kernel_rfl) (by kernel_rfl) (by kernel_rfl) (by decide) (by kernel_rfl) (fun _ _ _ h => h) (Or.inl ⟨by rfl, ?_⟩) (by assumption) (fun hT2 => ?_)
  rotate_left
  · (intro W hSw; (try dsimp only at hSw); go_simp; try with_reducible rfl)
  replace hTwo := hT2
  clear hT2
  (try simp only [Act.put, List.setIfInBounds_toArray, List.set_cons_zero, List.set_cons_succ])
  refine wpAny2_takeB (i := 7) (oi := _) (v := ?_) rfl (by kernel_rfl) (by kernel_rfl) (by kernel_rfl) (by kernel_rfl) (by decide) (by kernel_rfl) (fun _ _ _ h => h) (Or.inl ⟨by rfl, ?_⟩) (by assumption) (fun hT2 => ?_)
  rotate_left
  · (intro W hSw; (try dsimp only at hSw); go_simp; try with_reducible rfl)
  replace hTwo := hT2
  clear hT2
  (try simp only [Act.put, List.setIfInBounds_toArray, List.set_cons_zero, List.set_cons_succ])
  refine wpAny2_takeB (i := 8) (oi := _) (v := ?_) rfl (by kernel_rfl) (by kernel_rfl) (by kernel_rfl) (by kernel_rfl) (by decide) (by kernel_rfl) (fun _ _ _ h => h) (Or.inl ⟨by rfl, ?_⟩) (by assumption) (fun hT2 => ?_)
  rotate_left
  · (intro W hSw; (try dsimp only at hSw); go_simp; try with_reducible rfl)
  replace hTwo := hT2
  clear hT2
  (try simp only [Act.put, List.setIfInBounds_toArray, List.set_cons_zero, List.set_cons_succ])
  refine wpAny2_ready (rs := [4]) (by kernel_rfl) (by simp) ?_
  refine All2.cons (o := _) rfl (fun KK hKK => ?_) All2.nil
  go_simp
  (go_at_call 73; (with_reducible refine (HM1.out _ G).mono ?_); rintro e w' ⟨⟨p1, q1, rfl, hk1⟩, F⟩; have hsz := G.size; replace BA := BA.fr F (fun h => h); replace BB := BB.fr F (fun h => h); replace G := G.trans F; clear F HM1; go_wp2_with fail)
  refine hKK.out _ _ ?_ (fun hT2 => ?_)
  · exact ⟨fun _ => BA.cell, fun _ => BB.cell⟩
  clear hKK KK
  replace hTwo := hT2
  clear hT2
  (try simp only [Act.put, List.setIfInBounds_toArray, List.set_cons_zero, List.set_cons_succ])
  refine wpAny2_ready (rs := [9]) (by kernel_rfl) (by simp) ?_
  refine All2.cons (o := _) rfl (fun KK hKK => ?_) All2.nil
  go_simp
  (go_at_call 73; (with_reducible refine (HM2.out _ G).mono ?_); rintro e w' ⟨⟨p2, q2, rfl, hk2⟩, F⟩; have hsz2 := G.size; replace BA := BA.fr F (fun h => h); replace BB := BB.fr F (fun h => h); replace hk1 := hk1.old F; replace G := G.trans F; clear F HM2; go_wp2_with fail)
  refine hKK.out _ _ ?_ (fun hT2 => ?_)
  · exact ⟨fun _ => BA.cell, fun _ => BB.cell⟩
  clear hKK KK
  replace hTwo := hT2
  clear hT2
  (try simp only [Act.put, List.setIfInBounds_toArray, List.set_cons_zero, List.set_cons_succ])
  have X1 := set2 BA (.bool x.below) (.slice p1 x.size.length q1)
  have Y0 := BB.fr X1.2 (by omega)
  have Y1 := set2 Y0 (.bool y.below) (.slice p2 y.size.length q2)
  have X2 := X1.1.fr Y1.2 (by omega)
  have d0 := BA.cell 0
  have d1 := BA.cell 1
  have f0 := BA.frozen 0
  have f1 := BA.frozen 1
  have e0 := Y0.cell 0
  have e1 := Y0.cell 1
  have g0 := Y0.frozen 0
  have g1 := Y0.frozen 1
  simp only [List.getElem?_toArray, List.getElem?_cons_succ, List.getElem?_cons_zero] at d0 d1 e0 e1
  refine wpAny2_ready (rs := [10]) (by kernel_rfl) (by simp) ?_
  refine All2.cons (o := _) rfl (fun KK hKK => ?_) All2.nil
  go_simp
  skip
  refine hKK.out _ _ ?_ (fun hT2 => ?_)
  · exact ⟨(fun h => absurd (h.symm.trans (by kernel_rfl : _ = true)) (by decide)), fun _ => Y0.cell⟩
  clear hKK KK
  replace hTwo := hT2
  clear hT2
  (try simp only [Act.put, List.setIfInBounds_toArray, List.set_cons_zero, List.set_cons_succ])
  refine wpAny2_ready (rs := [11]) (by kernel_rfl) (by simp) ?_
  refine All2.cons (o := _) rfl (fun KK hKK => ?_) All2.nil
  go_simp
  skip
  refine hKK.out _ _ ?_ (fun hT2 => ?_)
  · exact ⟨(fun h => absurd (h.symm.trans (by kernel_rfl : _ = true)) (by decide)), (fun h => absurd (h.symm.trans (by kernel_rfl : _ = true)) (by decide))⟩
  clear hKK KK
  replace hTwo := hT2
  clear hT2
  (try simp only [Act.put, List.setIfInBounds_toArray, List.set_cons_zero, List.set_cons_succ])
  refine wpAny2_done (by kernel_rfl) ?_ _
  have hsd : w0.drew.heap.size = w0.heap.size := rfl
  obtain ⟨w3, hw3⟩ : ∃ w3, w3 = ((((w'.setCell ⟨z, 0, none⟩ (.bool x.below)).setCell ⟨z, 1, none⟩ (.slice p1 x.size.length q1)).setCell ⟨z + 1, 0, none⟩ (.bool y.below)).setCell ⟨z + 1, 1, none⟩ (.slice p2 y.size.length q2)) := ⟨_, rfl⟩
  have F3 : Fr (fun k => k = z ∨ k = z + 1) w' w3 := by rw [hw3]; exact (X1.2.mono (fun k _ e => .inl e)).trans (Y1.2.mono (fun k _ e => .inr e))
  have hb1 := hk1 w3 (F3.mono (fun k _ e => by have := HS0.out; omega))
  have hb2 := hk2 w3 (F3.mono (fun k _ e => by have := HS0.out; omega))
  have HF3 := Lib.hid ((HF0.out.trans G).trans' F3 (fun i hi e => by have := HZ.out; omega))
  rw [← hw3] at X2
  have Y3 := Y1.1
  rw [← hw3] at Y3
  rw [← hw3]
  have HC1 := Lib.hid (wSizes_any _ _ x.size y.size w3 hb1 hb2 (by omega) (by omega))
  have HC2 := Lib.hid (wSizes_any _ _ y.size x.size w3 hb2 hb1 (by omega) (by omega))
  clear d0 d1 f0 f1 e0 e1 g0 g1 hTwo X1 Y0 Y1 hk1 hk2 hb1 hb2 F3 hw3 BA BB G hsz hsz2
  try clear hTwo
  have d0 := X2.cell 0
  have d1 := X2.cell 1
  have e0 := Y3.cell 0
  have e1 := Y3.cell 1
  simp only [List.getElem?_toArray, List.getElem?_cons_succ, List.getElem?_cons_zero] at d0 d1 e0 e1
  obtain ⟨p, hp⟩ : ∃ p, p = x.below := ⟨_, rfl⟩
  obtain ⟨q, hq⟩ : ∃ q, q = y.below := ⟨_, rfl⟩
  rw [← hp] at d0 HR
  rw [← hq] at e0 HR
  clear hp hq X2 Y3 hxl hyl
  cases p with
  | false =>
    cases q with
    | false =>
      go_wp2_with fail
      refine HC1.out.mono ?_
      rintro e w4 ⟨rfl, F4⟩
      clear d0 d1 e0 e1
      go_wp2_with fail
      go_ret
      exact ⟨by rw [HR.out]; rfl, HF3.out.trans F4⟩
    | true =>
      go_wp2_with fail
      go_ret
      exact ⟨by rw [HR.out]; rfl, HF3.out⟩
  | true =>
    cases q with
    | false =>
      go_wp2_with fail
      go_ret
      exact ⟨by rw [HR.out]; rfl, HF3.out⟩
    | true =>
      go_wp2_with fail
      refine HC2.out.mono ?_
      rintro e w4 ⟨rfl, F4⟩
      clear d0 d1 e0 e1
      go_wp2_with fail
      go_ret
      exact ⟨by rw [HR.out]; rfl, HF3.out.trans F4⟩
end Go.Proofs.YtehlipgmkinfbaaGreatDoor

namespace Go.Q
open Go
theorem less_of {x y : Key1} : Op.bytesLess x y = decide (x < y) := Go.Proofs.bytesLess_eq x y
theorem greater_of (x y : Key1) : (!(Op.bytesLess x y || x == y)) = decide (y < x) := by
  rw [less_of]
  by_cases h : y < x
  · rw [decide_eq_true h]
    have h1 : ¬ x < y := fun h2 => absurd (Std.lt_trans h h2) (Std.lt_irrefl)
    have h2 : x ≠ y := fun e => absurd (e ▸ h) (Std.lt_irrefl)
    rw [decide_eq_false h1, Bool.false_or]
    simpa using h2
  · rw [decide_eq_false h]
    rcases Classical.em (x = y) with rfl | hne
    · simp
    · have := k_lt_of (Std.not_lt.1 h) hne
      rw [decide_eq_true this]
      rfl
end Go.Q

namespace Go.Proofs.YtehlipgmkinfbaaGreatDoor
open Go Go.RowKit Go.Q
set_option linter.unusedSimpArgs false
theorem str_list (a : List UInt8) : (ByteArray.mk a.toArray).toList = a := by
  rw [ByteArray.toList_eq]
theorem run_gtr (t : TypeId) (a b : List UInt8) (W : World) : (binOp .gtr t (str a) (str b)).run Tryz.prog W = .ok (.bool (decide (b < a))) W := by
  rw [← greater_of a b]
  simp [binOp, Op.stringOp, str, str_list]
theorem isNaN_any (a : List UInt8) (w : World) :
    Calls Tryz.prog 108 #[str a] w fun e w' => e = .returned (.bool false) ∧ Fr (fun _ => False) w w' := by
  have q1 : (a == a) = true := by simp
  have q2 : (a != a) = false := by simp
  go_enter Tryz.func108, Tryz.ntmps108
  go_wp2_with fail
  go_ret
  exact ⟨rfl, Fr.refl w⟩
set_option maxRecDepth 20000 in
theorem cmpStr_any (a b : List UInt8) (w : World) :
    Calls Tryz.prog 69 #[str a, str b] w fun e w' => e = .returned (.int .i64 (cmpL a b)) ∧ Fr (fun _ => False) w w' := by
  have hl : Op.bytesLess a b = decide (a < b) := less_of
  have hg : (!(Op.bytesLess a b || a == b)) = decide (b < a) := greater_of a b
  obtain ⟨p, hp⟩ : ∃ p, p = decide (a < b) := ⟨_, rfl⟩
  obtain ⟨q, hq⟩ : ∃ q, q = decide (b < a) := ⟨_, rfl⟩
  have HP := Lib.hid hp
  have HQ := Lib.hid hq
  rw [← hp] at hl
  rw [← hq] at hg
  clear hp hq
  go_enter Tryz.func69, Tryz.ntmps69
  go_wp2_with fail
  refine (isNaN_any a w).mono ?_
  rintro e w1 ⟨rfl, F1⟩
  go_wp2_with fail
  refine (isNaN_any b w1).mono ?_
  rintro e w2 ⟨rfl, F2⟩
  have HF := Lib.hid (F1.trans F2)
  clear F1 F2
  cases p with
  | true =>
    have h1 : a < b := of_decide_eq_true HP.out.symm
    have HE := Lib.hid (show cmpL a b = -1 from by unfold cmpL; rw [if_pos h1])
    clear h1 hg
    go_wp2_with fail
    go_ret
    exact ⟨by first | rfl | (rw [HE.out]; done) | (rw [HE.out]; rfl), HF.out⟩
  | false =>
    have h1 : ¬ a < b := of_decide_eq_false HP.out.symm
    have hgt := fun W => run_gtr 9 a b W
    rw [← HQ.out] at hgt
    clear hg
    cases q with
    | true =>
      have h2 : b < a := of_decide_eq_true HQ.out.symm
      have HE := Lib.hid (show cmpL a b = 1 from by unfold cmpL; rw [if_neg h1, if_pos h2])
      clear h1 h2
      go_wp2_with fail
      go_ret
      exact ⟨by first | rfl | (rw [HE.out]; done) | (rw [HE.out]; rfl), HF.out⟩
    | false =>
      have h2 : ¬ b < a := of_decide_eq_false HQ.out.symm
      have HE := Lib.hid (show cmpL a b = 0 from by unfold cmpL; rw [if_neg h1, if_neg h2])
      clear h1 h2
      go_wp2_with fail
      go_ret
      exact ⟨by first | rfl | (rw [HE.out]; done) | (rw [HE.out]; rfl), HF.out⟩
set_option maxRecDepth 20000 in
theorem cmpOr_any (b : Nat) (x y r : Int) (hr : r = (if x = 0 then y else x)) (w : World) (B : Blk w b 3 #[.int .i64 x, .int .i64 y]) :
    Calls Tryz.prog 68 #[.slice (some ⟨b, 0, none⟩) 2 2] w fun e w' => e = .returned (.int .i64 r) ∧ Fr (fun _ => False) w w' := by
  have HB := Lib.hid B
  have HR := Lib.hid hr
  clear B hr
  go_enter Tryz.func68, Tryz.ntmps68
  go_wp2_with fail
  go_loopg [8] 2 (fun g i wr => ∃ j : Nat, g = 2 - j ∧ j ≤ 2 ∧ i = .int .i64 j ∧ Hid (0 < j → x = 0) ∧ Hid (1 < j → y = 0) ∧ Fr (fun _ => False) w wr)
  case atStart => exact ⟨0, rfl, by omega, rfl, Lib.hid (fun h => absurd h (by omega)), Lib.hid (fun h => absurd h (by omega)), Fr.refl _⟩
  case round =>
    obtain ⟨j, hg, hj, rfl, H0, H1, F⟩ := hrel
    have HG := Lib.hid hg
    have HF := Lib.hid F
    have e0 := (HB.out.fr F (fun h => h)).cell 0
    have e1 := (HB.out.fr F (fun h => h)).cell 1
    simp only [List.getElem?_toArray, List.getElem?_cons_succ, List.getElem?_cons_zero] at e0 e1
    clear hg F
    rcases (by omega : j = 0 ∨ j = 1 ∨ j = 2) with rfl | rfl | rfl
    · by_cases hx : x = 0
      · have q1 : (x == 0) = true := by simp [hx]
        have q2 : (x != 0) = false := by simp [hx]
        have HX := Lib.hid hx
        clear hx
        go_wp2_with fail
        go_roundg (2 - 1)
        case measure => rw [HG.out]; omega
        case rel => exact ⟨1, rfl, by omega, by go_num, Lib.hid (fun _ => HX.out), Lib.hid (fun h => absurd h (by omega)), HF.out⟩
      · have q1 : (x == 0) = false := by simp [hx]
        have q2 : (x != 0) = true := by simp [hx]
        have HE := Lib.hid (show r = x from by rw [HR.out, if_neg hx])
        clear hx
        go_wp2_with fail
        go_ret
        exact ⟨by first | rfl | (rw [HE.out]; done) | (rw [HE.out]; rfl), HF.out⟩
    · have hx := H0.out (by omega)
      by_cases hy : y = 0
      · have q1 : (y == 0) = true := by simp [hy]
        have q2 : (y != 0) = false := by simp [hy]
        have HY := Lib.hid hy
        have HX := Lib.hid hx
        clear hy hx
        go_wp2_with fail
        go_roundg (2 - 2)
        case measure => rw [HG.out]; omega
        case rel => exact ⟨2, rfl, by omega, by go_num, Lib.hid (fun _ => HX.out), Lib.hid (fun _ => HY.out), HF.out⟩
      · have q1 : (y == 0) = false := by simp [hy]
        have q2 : (y != 0) = true := by simp [hy]
        have HE := Lib.hid (show r = y from by rw [HR.out, if_pos hx])
        clear hy hx
        go_wp2_with fail
        go_ret
        exact ⟨by first | rfl | (rw [HE.out]; done) | (rw [HE.out]; rfl), HF.out⟩
    · have hx := H0.out (by omega)
      have hy := H1.out (by omega)
      have HE := Lib.hid (show r = 0 from by rw [HR.out, if_pos hx, hy])
      clear hx hy
      go_wp2_with fail
      go_ret
      exact ⟨by first | rfl | (rw [HE.out]; done) | (rw [HE.out]; rfl), HF.out⟩
set_option maxRecDepth 100000 in
set_option maxHeartbeats 4000000 in
theorem order_any (ka kb : List UInt8) (x y : NumT) (a1 a2 b1 b2 : Option Addr) (n1 n2 c1 c2 e1 e2 : Nat) (d1 d2 r1 r2 : Int) (p1 p2 : Option Addr) (w : World) (h : Bytes w (.slice a2 x.size.length c2) x.size) (hu : Bytes w (.slice b2 y.size.length e2) y.size) (h1 : x.size.length ≤ 10000000000) (h2 : y.size.length ≤ 10000000000) :
    Calls Tryz.prog 39 #[.agg #[str ka, .slice a1 n1 c1, .bool x.below, .slice a2 x.size.length c2, .int .i64 d1, .int .i64 r1, .pointer p1], .agg #[str kb, .slice b1 n2 e1, .bool y.below, .slice b2 y.size.length e2, .int .i64 d2, .int .i64 r2, .pointer p2]] w fun e w' => e = .returned (.int .i64 (if cmpL ka kb = 0 then numC x y else cmpL ka kb)) ∧ Fr (fun _ => False) w w' := by
  obtain ⟨r, hr⟩ : ∃ r, r = (if cmpL ka kb = 0 then numC x y else cmpL ka kb) := ⟨_, rfl⟩
  have HR := Lib.hid hr
  rw [← hr]
  clear hr
  obtain ⟨z, hz⟩ : ∃ z, z = w.heap.size := ⟨_, rfl⟩
  have HZ := Lib.hid hz
  have F0 : Fr (fun _ => False) w ((w.alloc (.cells #[str ka, .slice a1 n1 c1, .bool x.below, .slice a2 x.size.length c2, .int .i64 d1, .int .i64 r1, .pointer p1] 78)).alloc (.cells #[str kb, .slice b1 n2 e1, .bool y.below, .slice b2 y.size.length e2, .int .i64 d2, .int .i64 r2, .pointer p2] 78)) := ((Fr.refl w).alloc _).alloc _
  have BA := (Blk.new w 78 #[str ka, .slice a1 n1 c1, .bool x.below, .slice a2 x.size.length c2, .int .i64 d1, .int .i64 r1, .pointer p1]).alloc (.cells #[str kb, .slice b1 n2 e1, .bool y.below, .slice b2 y.size.length e2, .int .i64 d2, .int .i64 r2, .pointer p2] 78)
  have BB := Blk.new (w.alloc (.cells #[str ka, .slice a1 n1 c1, .bool x.below, .slice a2 x.size.length c2, .int .i64 d1, .int .i64 r1, .pointer p1] 78)) 78 #[str kb, .slice b1 n2 e1, .bool y.below, .slice b2 y.size.length e2, .int .i64 d2, .int .i64 r2, .pointer p2]
  rw [World.size_alloc, ← hz] at BB
  rw [← hz] at BA
  have HC := Lib.hid (fun W (F : Fr (fun _ => False) ((w.alloc (.cells #[str ka, .slice a1 n1 c1, .bool x.below, .slice a2 x.size.length c2, .int .i64 d1, .int .i64 r1, .pointer p1] 78)).alloc (.cells #[str kb, .slice b1 n2 e1, .bool y.below, .slice b2 y.size.length e2, .int .i64 d2, .int .i64 r2, .pointer p2] 78)) W) => wCompare_any x.below y.below _ _ x.size y.size W ((h.old F0).old F) ((hu.old F0).old F) h1 h2)
  rw [show (⟨x.below, x.size⟩ : NumT) = x from rfl, show (⟨y.below, y.size⟩ : NumT) = y from rfl] at HC
  have HF0 := Lib.hid F0
  clear h hu hz F0 h1 h2
  go_enter Tryz.func39, Tryz.ntmps39
  go_upto_region 1 with fail
  rw [← HZ.out]
  generalize ((w.alloc (.cells #[str ka, .slice a1 n1 c1, .bool x.below, .slice a2 x.size.length c2, .int .i64 d1, .int .i64 r1, .pointer p1] 78)).alloc (.cells #[str kb, .slice b1 n2 e1, .bool y.below, .slice b2 y.size.length e2, .int .i64 d2, .int .i64 r2, .pointer p2] 78)) = w0 at *
  replace BA := BA.drew
  replace BB := BB.drew
  have G : Fr (fun _ => False) w0 w0.drew := (Fr.refl w0).drew
  go_region_held3 (fun w' => (∀ j, w'.cell? ⟨z, j, none⟩ = (#[str ka, .slice a1 n1 c1, .bool x.below, .slice a2 x.size.length c2, .int .i64 d1, .int .i64 r1, .pointer p1] : Array Value)[j]?) ∧ ∀ j, w'.cell? ⟨z + 1, j, none⟩ = (#[str kb, .slice b1 n2 e1, .bool y.below, .slice b2 y.size.length e2, .int .i64 d2, .int .i64 r2, .pointer p2] : Array Value)[j]?) (first | (with_reducible exact ⟨BA.cell, BB.cell⟩) | (with_reducible exact ⟨(BA.alloc _).cell, (BB.alloc _).cell⟩) | fail) (first
    | (go_at_call 69; refine (cmpStr_any ka kb _).mono ?_; rintro e w' ⟨rfl, F⟩; replace BA := BA.fr F (fun h => h); replace BB := BB.fr F (fun h => h); replace G := G.trans F; clear F)
    | (go_at_call 70; (with_reducible refine (HC.out _ G).mono ?_); rintro e w' ⟨rfl, F⟩; replace BA := BA.fr F (fun h => h); replace BB := BB.fr F (fun h => h); replace G := G.trans F; clear F HC; have BO := Blk.new w' 3 #[.int .i64 (cmpL ka kb), .int .i64 (numC x y)]; have GO := G.alloc (.cells #[.int .i64 (cmpL ka kb), .int .i64 (numC x y)] 3); have HO := Lib.hid (cmpOr_any _ (cmpL ka kb) (numC x y) r HR.out _ BO); clear BO)
    | (go_at_call 68; refine HO.out.mono ?_; rintro e w2 ⟨rfl, F⟩; replace BA := (BA.alloc (.cells #[.int .i64 (cmpL ka kb), .int .i64 (numC x y)] 3)).fr F (fun h => h); replace BB := (BB.alloc (.cells #[.int .i64 (cmpL ka kb), .int .i64 (numC x y)] 3)).fr F (fun h => h); have GE := GO.trans F; clear F HO GO)
    | fail)
  all_goals
    have HGE := Lib.hid (HF0.out.trans GE)
    clear GE G BA BB
    go_wp2_with fail
    go_ret
    exact ⟨rfl, HGE.out⟩
end Go.Proofs.YtehlipgmkinfbaaGreatDoor

namespace Go.Q
section
variable {α κ : Type} {lt : κ → κ → Bool} {key : α → κ}
theorem Ord3.nlt (ho : Ord3 lt) {a b c : κ} (h1 : lt b a = false) (h2 : lt c b = false) : lt c a = false := by
  cases h : lt c a with
  | false => rfl
  | true =>
    rcases ho.tot a b with e | e | e
    · have := ho.tr _ _ _ h e
      rw [h2] at this; cases this
    · subst e
      rw [h2] at h; cases h
    · rw [h1] at e; cases e
def Mid (lt : κ → κ → Bool) (key : α → κ) (P : List α) (x : α) (Q : List α) : Prop := Upw lt key (P ++ Q) ∧ ∀ q ∈ Q, lt (key x) (key q) = true
theorem mid_start {P : List α} (x : α) (h : Upw lt key P) : Mid lt key P x [] := ⟨by rwa [List.append_nil], fun q hq => by cases hq⟩
theorem mid_step {P Q : List α} {p x : α} (h : Mid lt key (P ++ [p]) x Q) (hx : lt (key x) (key p) = true) : Mid lt key P x (p :: Q) := by
  obtain ⟨h1, h2⟩ := h
  rw [List.append_assoc] at h1
  refine ⟨h1, fun q hq => ?_⟩
  rcases List.mem_cons.1 hq with e | e
  · rw [e]; exact hx
  · exact h2 q e
theorem mid_end (ho : Ord3 lt) {P Q : List α} {x : α} (h : Mid lt key P x Q) (hx : ∀ p, P.getLast? = some p → lt (key x) (key p) = false) : Upw lt key (P ++ x :: Q) := by
  obtain ⟨h1, h2⟩ := h
  have g := List.pairwise_append.1 h1
  refine List.pairwise_append.2 ⟨g.1, List.pairwise_cons.2 ⟨fun q hq => ho.asym (h2 q hq), g.2.1⟩, fun a ha b hb => ?_⟩
  rcases List.mem_cons.1 hb with e | e
  · subst e
    rcases List.eq_nil_or_concat P with e2 | ⟨P', p, e2⟩
    · rw [e2] at ha; cases ha
    · rw [List.concat_eq_append] at e2
      have hp := hx p (by rw [e2]; simp)
      rw [e2] at ha
      rcases List.mem_append.1 ha with h3 | h3
      · have hw := g.1
        rw [e2] at hw
        have := (List.pairwise_append.1 hw).2.2 a h3 p (by simp)
        exact ho.nlt this hp
      · rw [List.mem_singleton] at h3
        rw [h3]; exact hp
  · exact g.2.2 a ha b e
end
end Go.Q

namespace Go.Q
open Go Go.RowKit
def putL (W : World) (z : Nat) : Nat → List Value → World
  | _, [] => W
  | i, v :: l => putL (W.setCell ⟨z, i, none⟩ v) z (i + 1) l
theorem setL_take {cs : Array Value} {pre : List Value} {v : Value} {rest : List Value} {x : Value} (h : cs.toList = pre ++ x :: rest) : (cs.setIfInBounds pre.length v).toList = (pre ++ [v]) ++ rest := by
  rw [Array.toList_setIfInBounds, h, List.set_append_right _ _ (Nat.le_refl _), Nat.sub_self, List.set_cons_zero, List.append_assoc]
  rfl
theorem putL_blk {t : TypeId} {z : Nat} : ∀ (l rest pre : List Value) (W : World) (cs : Array Value), Blk W z t cs → cs.toList = pre ++ rest → rest.length = l.length → Blk (putL W z pre.length l) z t (pre ++ l).toArray ∧ Fr (fun k => k = z) W (putL W z pre.length l)
  | [], rest, pre, W, cs, h, he, hl => by
    have hr : rest = [] := List.length_eq_zero_iff.1 hl
    rw [hr, List.append_nil] at he
    have hc : cs = pre.toArray := by rw [← he]
    rw [List.append_nil, ← hc]
    exact ⟨h, Fr.refl W⟩
  | v :: l, rest, pre, W, cs, h, he, hl => by
    match rest, hl with
    | x :: rest, hl =>
      have h1 := h.set pre.length v
      have h2 := setL_take (v := v) he
      have h3 := putL_blk l rest (pre ++ [v]) _ _ h1 h2 (by simpa using hl)
      rw [List.length_append, List.length_singleton, List.append_assoc] at h3
      exact ⟨h3.1, (Fr.setCell (S := fun k => k = z) (p := ⟨z, pre.length, none⟩) (Fr.refl W) (fun _ => rfl) v).trans h3.2⟩
theorem putL_all {t : TypeId} {z : Nat} {W : World} {Z : List Value} (h : Blk W z t Z.toArray) {l : List Value} (hl : Z.length = l.length) : Blk (putL W z 0 l) z t l.toArray ∧ Fr (fun k => k = z) W (putL W z 0 l) :=
  putL_blk l Z [] W Z.toArray h (by simp) hl
def BagZ (Z : List Value) (t : TypeId) (w0 W : World) (l : List Nat) : Prop := Fr (fun _ => False) w0 W ∧ l.Nodup ∧ ∀ z ∈ l, w0.heap.size ≤ z ∧ Blk W z t Z.toArray
section
variable {Z : List Value} {t : TypeId} {w0 W W' : World} {l : List Nat}
theorem BagZ.nil (Z : List Value) (t : TypeId) (w : World) : BagZ Z t w w [] := ⟨Fr.refl w, List.nodup_nil, fun z hz => by simp at hz⟩
theorem BagZ.lt (h : BagZ Z t w0 W l) : ∀ z ∈ l, z < W.heap.size := fun z hz => (h.2.2 z hz).2.lt
theorem BagZ.more (h : BagZ Z t w0 W l) : BagZ Z t w0 (W.alloc (.cells Z.toArray t)) (W.heap.size :: l) := by
  refine ⟨h.1.alloc _, List.nodup_cons.2 ⟨fun hm => Nat.lt_irrefl _ (h.lt _ hm), h.2.1⟩, fun z hz => ?_⟩
  rcases List.mem_cons.1 hz with rfl | hz
  · exact ⟨h.1.size, Blk.new _ _ _⟩
  · exact ⟨(h.2.2 z hz).1, (h.2.2 z hz).2.alloc _⟩
theorem BagZ.two (h : BagZ Z t w0 W l) : BagZ Z t w0 ((W.alloc (.cells Z.toArray t)).alloc (.cells Z.toArray t)) ((W.heap.size + 1) :: W.heap.size :: l) := by
  have := h.more.more
  rwa [World.size_alloc] at this
theorem BagZ.call (h : BagZ Z t w0 W l) (F : Fr (fun _ => False) W W') : BagZ Z t w0 W' l := ⟨h.1.trans F, h.2.1, fun z hz => ⟨(h.2.2 z hz).1, (h.2.2 z hz).2.fr F (fun h => h)⟩⟩
theorem BagZ.drew (h : BagZ Z t w0 W l) : BagZ Z t w0 W.drew l := ⟨h.1.drew, h.2.1, fun z hz => ⟨(h.2.2 z hz).1, (h.2.2 z hz).2.drew⟩⟩
abbrev HeldL (R : World → Prop) (l : List Nat) (W : World) : Prop := Kept R (fun k => k ∈ l) W
theorem HeldL.more {R : World → Prop} (h : HeldL R l W) (o : Obj) : HeldL R (W.heap.size :: l) (W.alloc o) := Kept.step h (S := fun _ => False) ((Fr.refl W).alloc o) (fun _ _ h => h.elim) (fun k hk => by
  rcases List.mem_cons.1 hk with rfl | hk
  · exact .inr (Nat.le_refl _)
  · exact .inl hk)
theorem HeldL.two {R : World → Prop} (h : HeldL R l W) (o q : Obj) : HeldL R ((W.heap.size + 1) :: W.heap.size :: l) ((W.alloc o).alloc q) := by
  have := (h.more o).more q
  rwa [World.size_alloc] at this
theorem BagZ.held (h : BagZ Z t w0 W l) {R : World → Prop} {w' : World} (hk : Kept R (fun k => k < W.heap.size) w') : HeldL R l w' := fun V f => hk V (f.mono (fun k _ hm => h.lt k hm))
end
def DoneL (t : TypeId) (w0 : World) (R : World → Prop) (a d : List Value) (V : World) (p q : Nat) : Prop := Blk V p t a.toArray ∧ Blk V q t d.toArray ∧ R V ∧ Fr (fun _ => False) w0 V
section
variable {Z : List Value} {t : TypeId} {w0 W : World} {R : World → Prop} {a d : List Value}
end
end Go.Q
