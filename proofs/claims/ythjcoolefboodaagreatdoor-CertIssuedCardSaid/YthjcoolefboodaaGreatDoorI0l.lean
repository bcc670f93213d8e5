/-
  Merged by program: XNsLaw XNsTo XNKept XNaOf XGenAt XExt XStruct7 XRdC XHeld XR14L XRSlice XNSub XNOpen XR02O XNOidR XR04P XR15 XNOidQ XNAttrR XNRdnR XNNameR XR14R XR14P XR14N XGenB XGenR XNkLaw XNkKnown XNkWalk1 XNbW XGenRd XR15R XGenRl XR15L XGenTo.
-/
import Derived.Test.YthjcoolefboodaaGreatDoorI0k
import Derived.Test.YthjcoolefboodaaGreatDoorI0j
import Derived.Test.YthjcoolefboodaaGreatDoorI0a
import Derived.ChangeSame
import Derived.Test.YthjcoolefboodaaGreatDoorI0e
import Derived.Deep.Strs
import Derived.Test.YthjcoolefboodaaGreatDoorI0b
import Derived.Test.YthjcoolefboodaaGreatDoorI0c
import Derived.Test.YthjcoolefboodaaGreatDoorI0i
import Derived.Test.YthjcoolefboodaaGreatDoorI0d
import Derived.Deep.CutBlock
import Derived.Deep.CutRange
import Derived.Deep.Cut
namespace Go.Q
open Go
def cutPart (p : Part) : Part := ⟨p.o.take 40, p.b.take 200⟩
def cutStep (l : List Part) : List Part := (l.take 20).map cutPart
def cutName (n : List (List Part)) : List (List Part) := (n.take 70).map cutStep
theorem cutPart_few (p : Part) : (cutPart p).b.length ≤ 10000000 := by
  show (p.b.take 200).length ≤ 10000000
  rw [List.length_take]
  omega
theorem cutStep_few (l : List Part) : fewB (cutStep l) := fun p hp => by
  obtain ⟨q, -, rfl⟩ := List.mem_map.1 hp
  exact cutPart_few q
theorem cutName_few (n : List (List Part)) : ∀ r ∈ cutName n, fewB r := fun r hr => by
  obtain ⟨q, -, rfl⟩ := List.mem_map.1 hr
  exact cutStep_few q
theorem cutStep_len (l : List Part) : (cutStep l).length ≤ 20 := by
  unfold cutStep
  rw [List.length_map, List.length_take]
  omega
theorem NameAt.form {w : World} {v : Value} {n : List (List Part)} (h : NameAt w v n) : ∃ a c, v = .slice a n.length c ∧ n.length ≤ c ∧ c ≤ maxLen := by
  obtain ⟨a, c, rfl, h1, h2, -⟩ := h
  exact ⟨a, c, rfl, h1, h2⟩
theorem nameSame_self (n : List (List Part)) : nameSameS n n = nameOk n := by
  unfold nameSameS
  rw [decide_eq_true rfl, Bool.and_true, Bool.and_self]
end Go.Q

namespace Go.Q
open Go Go.RowKit
theorem Ints.cut {w : World} {a : Option Addr} {c : Nat} {l : List Int} (h : Ints w (.slice a l.length c) l) (N m : Nat) (hm : m = min l.length N) : Ints w (.slice a m c) (l.take N) := by
  obtain ⟨a0, c0, he, h1, h2, -⟩ := Ints.form h
  simp only [Value.slice.injEq] at he
  obtain ⟨rfl, -, rfl⟩ := he
  have := Vals.sub h 0 m (Nat.zero_le _) (by omega) a c (fun _ b o e => by simpa using e) (by omega) h2
  simp only [Nat.sub_zero, List.drop_zero] at this
  have e : l.take N = l.take m := by
    rw [hm, ← List.take_take, List.take_of_length_le (l := l.take N) (by rw [List.length_take]; omega)]
  unfold Ints intCells
  rw [e, List.map_take]
  exact this
theorem Vals.cut {w : World} {a : Option Addr} {c : Nat} {l : List UInt8} (h : Bytes w (.slice a l.length c) l) (N m : Nat) (hm : m = min l.length N) : Bytes w (.slice a m c) (l.take N) := by
  obtain ⟨a0, c0, he, h1, h2, -⟩ := Vals.form h
  simp only [Value.slice.injEq] at he
  obtain ⟨rfl, -, rfl⟩ := he
  have := Vals.sub h 0 m (Nat.zero_le _) (by omega) a c (fun _ b o e => by simpa using e) (by omega) h2
  simp only [Nat.sub_zero, List.drop_zero] at this
  have e : l.take N = l.take m := by
    rw [hm, ← List.take_take, List.take_of_length_le (l := l.take N) (by rw [List.length_take]; omega)]
  unfold Bytes Lib.byteCells
  rw [e, List.map_take]
  exact this
theorem map_take_succ {α β : Type} (f : α → β) {l : List α} {j : Nat} {x : α} (h : l[j]? = some x) : (l.take (j + 1)).map f = (l.take j).map f ++ [f x] := by
  rw [List.take_add_one, h]
  simp
end Go.Q
namespace Go.Proofs.YthjcoolefboodaaGreatDoor
open Go Go.RowKit Go.Q
set_option linter.unusedSimpArgs false
set_option maxRecDepth 20000 in
set_option maxHeartbeats 4000000 in
theorem lawStep_any (v : Value) (l : List Part) (w0 w : World) (h : Attrs w0 v l) (F0 : Fr (fun _ => False) w0 w) :
    Calls Tryz.prog 25 #[v] w fun e w' => (∃ a c, e = .returned (.slice a (cutStep l).length c) ∧ ARow 107 w0 w' w.heap.size (.slice a (cutStep l).length c) (cutStep l)) ∧ Fr (fun _ => False) w w' := by
  have H := Lib.hid h
  have HF0 := Lib.hid F0
  obtain ⟨a, cap, rfl, -⟩ := h
  have hcs : cutStep l = (l.take 20).map cutPart := rfl
  have HCS := Lib.hid hcs
  clear hcs F0
  go_enter Tryz.func25, Tryz.ntmps25
  go_wp2_with fail
  go_loopg [3, 4] l.length (fun g u i wr => ∃ (j : Nat) (au : Option Addr) (cu : Nat), g = l.length - j ∧ j ≤ l.length ∧ j ≤ 20 ∧ u = .slice au j cu ∧ i = .int .i64 j ∧ ARow 107 w0 wr w.heap.size (.slice au j cu) ((l.take j).map cutPart) ∧ Fr (fun _ => False) w wr)
  case atStart => exact ⟨0, none, 0, rfl, Nat.zero_le _, by omega, rfl, rfl, ARow.nil _ _ _ _, Fr.refl _⟩
  case round =>
    obtain ⟨j, au, cu, hg, hj, hj20, rfl, rfl, hrow, F⟩ := hrel
    have HG := Lib.hid hg
    have HRW := Lib.hid hrow
    have HF := Lib.hid F
    have hml : ((l.take j).map cutPart).length = j := by rw [List.length_map, List.length_take]; omega
    have HML := Lib.hid hml
    clear hg hrow hml
    by_cases hjl : j < l.length
    · have q1 : (j : Int) < (l.length : Int) := by omega
      by_cases h20 : j < 20
      · have q2 : (j : Int) < 20 := by omega
        obtain ⟨a0, cap0, he, _, _, hx⟩ := H.out
        simp only [Value.slice.injEq, true_and] at he
        obtain ⟨rfl, rfl⟩ := he
        obtain ⟨b, off, rfl, hy⟩ := hx (by omega)
        obtain ⟨p, hp⟩ : ∃ p, l[j]? = some p := ⟨_, List.getElem?_eq_getElem hjl⟩
        obtain ⟨x, y, e1, e2, hpx, hpy⟩ := hy j p hp
        obtain ⟨ax, cx, rfl, hcx, hmx, -⟩ := Ints.form hpx
        obtain ⟨ay, cy, rfl, hcy, hmy, -⟩ := Vals.form hpy
        have e1' : wr.cell? ⟨b, off + j * 2, none⟩ = some (.slice ax p.o.length cx) := by rw [Nat.mul_comm]; exact (HF0.out.trans F).cell e1 (fun h => h)
        have e2' : wr.cell? ⟨b, off + j * 2 + 1, none⟩ = some (.slice ay p.b.length cy) := by rw [Nat.mul_comm]; exact (HF0.out.trans F).cell e2 (fun h => h)
        obtain ⟨mo, hmo⟩ : ∃ m : Nat, m = min p.o.length 40 := ⟨_, rfl⟩
        obtain ⟨mb, hmb⟩ : ∃ m : Nat, m = min p.b.length 200 := ⟨_, rfl⟩
        have HPX := Lib.hid (Ints.cut hpx 40 mo hmo)
        have HPY := Lib.hid (Vals.cut hpy 200 mb hmb)
        have HMT := Lib.hid (map_take_succ cutPart hp)
        unfold maxLen at hmx hmy
        have c1 : min (p.o.length : Int) 40 = (mo : Int) := by omega
        have c2 : min (p.b.length : Int) 200 = (mb : Int) := by omega
        have c3 : (mo : Int) ≤ (cx : Int) := by omega
        have c4 : (mb : Int) ≤ (cy : Int) := by omega
        have c5 : (0 : Int) ≤ (mo : Int) := by omega
        have c6 : (0 : Int) ≤ (mb : Int) := by omega
        have r1 : (0 : Int) ≤ (j : Int) := by omega
        clear hx hy hp e1 e2 hpx hpy hmo hmb
        go_upto_region 6 with fail
        obtain ⟨z, hz⟩ : ∃ z, z = wr.heap.size := ⟨_, rfl⟩
        have BA := Blk.new wr 106 #[.slice ax p.o.length cx, .slice ay p.b.length cy]
        have F1 : Fr (fun _ => False) wr (wr.alloc (.cells #[.slice ax p.o.length cx, .slice ay p.b.length cy] 106)) := (Fr.refl wr).alloc _
        rw [← hz] at BA ⊢
        have HZ := Lib.hid hz
        clear hz e1' e2'
        generalize (wr.alloc (.cells #[.slice ax p.o.length cx, .slice ay p.b.length cy] 106)) = w1 at *
        obtain ⟨wa, hwa⟩ : ∃ wa, wa = w1.drew.alloc (.cells #[.slice ax mo cx, .slice ay mb cy] 107) := ⟨_, rfl⟩
        have Fa : Fr (fun _ => False) wr wa := by rw [hwa]; exact F1.drew.alloc _
        have BAa : Blk wa z 106 #[.slice ax p.o.length cx, .slice ay p.b.length cy] := by rw [hwa]; exact BA.drew.alloc _
        have BX : Blk wa w1.heap.size 107 #[.slice ax mo cx, .slice ay mb cy] := by rw [hwa]; exact Blk.new w1.drew _ _
        obtain ⟨a7, c7, w7, hrun, hrow7, F7⟩ := ARow.add Tryz.underlying75 info107 (HRW.out.fr Fa (fun _ _ h => h)) (HF.out.trans Fa).size (Fr.refl wa) w1.heap.size BX (cutPart p) HPX.out HPY.out (by rw [HML.out]; omega)
        have HG7 := Lib.hid ((HF.out.trans Fa).trans' F7 (fun i hi e => absurd hi (by have := (HRW.out.keep i e).1; omega)))
        have BA7 := BAa.fr F7 (fun e => by have := (HRW.out.keep z e).2; have := HZ.out; omega)
        rw [HML.out] at hrun hrow7
        have HRUN := Lib.hid hrun
        have HROW7 := Lib.hid hrow7
        have HC0 := Lib.hid BA.drew.cell
        have HCa := Lib.hid BAa.cell
        have HC7 := Lib.hid BA7.cell
        rw [hwa] at HCa HRUN
        clear hrun hrow7 F7 BA7 BAa BX Fa F1 BA hwa
        go_region_held3 (fun w' => ∀ j, w'.cell? ⟨z, j, none⟩ = (#[.slice ax p.o.length cx, .slice ay p.b.length cy] : Array Value)[j]?) (first | exact HC0.out | exact HCa.out | exact HC7.out) (first
          | (refine step_append_run (by rfl) (.tmp 20) (.tmp 36) 75 (by rfl) _ w7 (by exact HRUN.out) ?_)
          | fail)
        all_goals
          go_wp2_with fail
          go_roundg (l.length - (j + 1))
          case measure => rw [HG.out]; omega
          case rel => exact ⟨j + 1, a7, c7, rfl, by omega, by omega, rfl, by go_num, by rw [HMT.out]; exact HROW7.out, HG7.out⟩
      · obtain rfl : j = 20 := by omega
        have q2 : ¬ ((20 : Nat) : Int) < 20 := by omega
        have hres : (l.take 20).map cutPart = cutStep l := HCS.out.symm
        have hrow := HRW.out
        rw [hres] at hrow
        have hlen : 20 = (cutStep l).length := by rw [← hres, HML.out]
        have HL := Lib.hid hlen
        have HROW := Lib.hid hrow
        clear hres hrow hlen
        go_wp2_with fail
        go_ret
        exact ⟨⟨au, cu, by rw [← HL.out]; rfl, by rw [← HL.out]; exact HROW.out⟩, F⟩
    · obtain rfl : j = l.length := by omega
      have hres : (l.take l.length).map cutPart = cutStep l := by rw [HCS.out, List.take_of_length_le hj20, List.take_length]
      have hrow := HRW.out
      rw [hres] at hrow
      have hlen : l.length = (cutStep l).length := by rw [← hres, HML.out]
      have HL := Lib.hid hlen
      have HROW := Lib.hid hrow
      clear hres hrow hlen
      go_wp2_with fail
      go_ret
      exact ⟨⟨au, cu, by rw [← HL.out]; rfl, by rw [← HL.out]; exact HROW.out⟩, F⟩
theorem info106 : (Tryz.prog.info? 106).map (fun i => (i.zero, i.size, i.bytes)) = some (some (.agg #[.slice none 0 0, .slice none 0 0]), 2, 48) := by kernel_rfl
theorem info73 : (Tryz.prog.info? 73).map (fun i => (i.zero, i.size, i.bytes)) = some (some (.slice none 0 0), 1, 24) := by kernel_rfl
end Go.Proofs.YthjcoolefboodaaGreatDoor

namespace Go.Q
open Go Go.RowKit
theorem Kept.weaken {R : World → Prop} {K K' : Nat → Prop} {w : World} (h : Kept R K w) (hK : ∀ k, K' k → K k) : Kept R K' w := fun W f => h W (f.mono (fun k _ hs => hK k hs))
end Go.Q

namespace Go.Q
open Go Go.RowKit
def FRow (K : Nat → Prop) (t : TypeId) (w : World) (base : Nat) (v : Value) (n : List (List Part)) : Prop :=
  ∃ us : List Value, w.ownsRow base t 1 v n.length us ∧ us.length = n.length ∧ ∀ (i : Nat) (u : Value) (r : List Part), us[i]? = some u → n[i]? = some r → Kept (fun W => Attrs W u r) (fun k => v.ownBlock = some k ∨ K k) w
theorem FRow.old {K : Nat → Prop} {t : TypeId} {w w' : World} {base : Nat} {v : Value} {n : List (List Part)} (h : FRow K t w base v n) (f : Fr (fun _ => False) w w') : FRow K t w' base v n := by
  obtain ⟨us, h1, h2, h3⟩ := h
  exact ⟨us, Go.Proofs.YthjcoolefboodaaGreatDoor.ownsRow_fr h1 f (fun _ _ h => h), h2, fun i u r hu hr => (h3 i u r hu hr).old f⟩
theorem FRow.keep {K : Nat → Prop} {t : TypeId} {w : World} {base : Nat} {v : Value} {n : List (List Part)} (h : FRow K t w base v n) : ∀ k, v.ownBlock = some k → base ≤ k ∧ k < w.heap.size := by
  obtain ⟨us, h1, -⟩ := h
  exact (Vals.of_own h1).2
theorem FRow.nil (K : Nat → Prop) (t : TypeId) (w : World) (base : Nat) : FRow K t w base (.slice none 0 0) [] := ⟨[], ⟨rfl, .inl ⟨rfl, rfl⟩⟩, rfl, fun i u r h => by simp at h⟩
theorem FRow.add {P : Program} {K : Nat → Prop} {t s : TypeId} (hu0 : P.underlying s = some (.slice t)) (hinf : Info P t (.slice none 0 0) 1 24) {w wa : World} {base : Nat} {v : Value} {n : List (List Part)} (h : FRow K t w base v n) (hb : base ≤ w.heap.size) (F1 : Fr (fun _ => False) w wa) (g : Nat) (u : Value) (r : List Part) (BX : Blk wa g t #[u]) (hu1 : u.oneCell' = true) (hu : Kept (fun W => Attrs W u r) (fun k => v.ownBlock = some k ∨ K k) w) (hn : n.length ≤ 109951162777) :
    ∃ a c w', (Builtin.append_ #[s, s] s #[v, .slice (some ⟨g, 0, none⟩) 1 1]).run P wa = .ok (.slice a (n.length + 1) c) w' ∧ FRow K t w' base (.slice a (n.length + 1) c) (n ++ [r]) ∧ Fr (fun k => v.ownBlock = some k) w w' := by
  obtain ⟨us, h1, h2, h3⟩ := h
  obtain ⟨a, c, w', hrun, h4, F2, h5⟩ := add_gen hu0 hinf rfl (by decide) (by decide) h1 hb F1 g [u] rfl BX (by simpa using hu1) hn
  have hst : ∀ (x : Value) (q : List Part), Kept (fun W => Attrs W x q) (fun k => v.ownBlock = some k ∨ K k) w → Kept (fun W => Attrs W x q) (fun k => (Value.slice a (n.length + 1) c).ownBlock = some k ∨ K k) w' := fun x q hq =>
    hq.step F2 (fun _ _ h => .inl h) (fun k hk => by
      rcases hk with h | h
      · rcases h5 k h with h | h
        · exact .inl (.inl h)
        · exact .inr h
      · exact .inl (.inr h))
  refine ⟨a, c, w', hrun, ⟨us ++ [u], ?_, by simp [h2], fun i x s hx hs => ?_⟩, F2⟩
  · rw [List.length_append]
    exact h4
  · rcases Nat.lt_or_ge i us.length with hi | hi
    · rw [List.getElem?_append_left hi] at hx
      rw [List.getElem?_append_left (by omega)] at hs
      exact hst _ _ (h3 i x s hx hs)
    · obtain rfl : i = us.length := by
        have := (List.getElem?_eq_some_iff.1 hx).1
        simp at this
        omega
      rw [List.getElem?_append_right (Nat.le_refl _)] at hx
      rw [List.getElem?_append_right (by omega)] at hs
      simp at hx
      simp [h2] at hs
      subst hx; subst hs
      exact hst _ _ hu
end Go.Q
namespace Go.Proofs.YthjcoolefboodaaGreatDoor
open Go Go.RowKit Go.Q
set_option linter.unusedSimpArgs false
set_option maxRecDepth 20000 in
set_option maxHeartbeats 8000000 in
theorem lawOfK_any (v : Value) (n : List (List Part)) (wb w : World) (h : NameAt wb v n) (Fb : Fr (fun _ => False) wb w) (hn : n.length ≤ 1000000) (hr0 : ∀ r ∈ n, r.length ≤ 1000000) :
    Calls Tryz.prog 21 #[v] w fun e w' => (∃ a c, e = .returned (.slice a n.length c) ∧ FRow (fun k => wb.heap.size ≤ k ∧ k < w.heap.size) 73 w' w.heap.size (.slice a n.length c) n) ∧ Fr (fun _ => False) w w' := by
  have H := Lib.hid h
  have HFB := Lib.hid Fb
  have HR0 := Lib.hid hr0
  obtain ⟨a, cap, rfl, -⟩ := h
  clear hr0 Fb
  go_enter Tryz.func21, Tryz.ntmps21
  go_wp2_with fail
  go_loopg [3, 4] n.length (fun g u i wr => ∃ (j : Nat) (au : Option Addr) (cu : Nat), g = n.length - j ∧ j ≤ n.length ∧ u = .slice au j cu ∧ i = .int .i64 j ∧ FRow (fun k => wb.heap.size ≤ k ∧ k < w.heap.size) 73 wr w.heap.size (.slice au j cu) (n.take j) ∧ Fr (fun _ => False) w wr)
  case atStart => exact ⟨0, none, 0, rfl, Nat.zero_le _, rfl, rfl, FRow.nil _ _ _ _, Fr.refl _⟩
  case round =>
    obtain ⟨j, au, cu, hg, hj, rfl, rfl, hrow, F⟩ := hrel
    have HG := Lib.hid hg
    have HRW := Lib.hid hrow
    have HF := Lib.hid F
    have hml : (n.take j).length = j := by rw [List.length_take]; omega
    have HML := Lib.hid hml
    clear hg hrow hml
    by_cases hjl : j < n.length
    · have q1 : (j : Int) < (n.length : Int) := by omega
      obtain ⟨a0, cap0, he, _, _, hx⟩ := H.out
      simp only [Value.slice.injEq, true_and] at he
      obtain ⟨rfl, rfl⟩ := he
      obtain ⟨b, off, rfl, hy⟩ := hx (by omega)
      obtain ⟨r, hr⟩ : ∃ r, n[j]? = some r := ⟨_, List.getElem?_eq_getElem hjl⟩
      obtain ⟨x, e0, hA⟩ := hy j r hr
      have hrl := HR0.out r (List.mem_of_getElem? hr)
      have HE0 := Lib.hid e0
      have HMT := Lib.hid (show n.take (j + 1) = n.take j ++ [r] from by rw [List.take_add_one, hr]; rfl)
      have HA := Lib.hid hA
      obtain ⟨ar, cr, rfl, -⟩ := hA
      have r1 : (0 : Int) ≤ (j : Int) := by omega
      have r2 : (j : Int) < (n.length : Int) := by omega
      clear hx hy hr e0 F
      obtain ⟨wo, hwo⟩ : ∃ wo : World, wo = wr := ⟨_, rfl⟩
      obtain rfl := hwo
      go_wp2_with fail
      go_loopg [5, 6] r.length (fun g u k wr => ∃ (i : Nat) (a2 : Option Addr) (c2 : Nat), g = r.length - i ∧ i ≤ r.length ∧ u = .slice a2 i c2 ∧ k = .int .i64 i ∧ ARow 106 wb wr wo.heap.size (.slice a2 i c2) (r.take i) ∧ Fr (fun _ => False) wo wr)
      case atStart => exact ⟨0, none, 0, rfl, Nat.zero_le _, rfl, rfl, ARow.nil _ _ _ _, Fr.refl _⟩
      case round =>
        obtain ⟨i, a2, c2, hg, hi, rfl, rfl, hrow2, F2⟩ := hrel
        have HG2 := Lib.hid hg
        have HRW2 := Lib.hid hrow2
        have HF2 := Lib.hid F2
        have hml : (r.take i).length = i := by rw [List.length_take]; omega
        have HML2 := Lib.hid hml
        have e0 := ((HFB.out.trans HF.out).trans F2).cell HE0.out (fun h => h)
        clear hg hrow2 hml
        by_cases hil : i < r.length
        · have q2 : (i : Int) < (r.length : Int) := by omega
          obtain ⟨a1, cap1, he, _, _, hx⟩ := HA.out
          simp only [Value.slice.injEq, true_and] at he
          obtain ⟨rfl, rfl⟩ := he
          obtain ⟨b1, o1, rfl, hy⟩ := hx (by omega)
          obtain ⟨p, hp⟩ : ∃ p, r[i]? = some p := ⟨_, List.getElem?_eq_getElem hil⟩
          obtain ⟨x, y, e1, e2, hpx, hpy⟩ := hy i p hp
          obtain ⟨ax, cx, rfl, -⟩ := Ints.form hpx
          obtain ⟨ay, cy, rfl, -⟩ := Vals.form hpy
          have e1' : wb.cell? ⟨b1, o1 + i * 2, none⟩ = some (.slice ax p.o.length cx) := by rw [Nat.mul_comm]; exact e1
          have e2' : wb.cell? ⟨b1, o1 + i * 2 + 1, none⟩ = some (.slice ay p.b.length cy) := by rw [Nat.mul_comm]; exact e2
          have HMT2 := Lib.hid (show r.take (i + 1) = r.take i ++ [p] from by rw [List.take_add_one, hp]; rfl)
          have s1 : (0 : Int) ≤ (i : Int) := by omega
          obtain ⟨wa, hwa⟩ : ∃ wa, wa = wr.drew.alloc (.cells #[.slice ax p.o.length cx, .slice ay p.b.length cy] 106) := ⟨_, rfl⟩
          have Fa : Fr (fun _ => False) wr wa := by rw [hwa]; exact (Fr.refl wr).drew.alloc _
          have BX : Blk wa wr.heap.size 106 #[.slice ax p.o.length cx, .slice ay p.b.length cy] := by rw [hwa]; exact Blk.new wr.drew _ _
          obtain ⟨a7, c7, w7, hrun, hrow7, F7⟩ := ARow.add Tryz.underlying73 info106 (HRW2.out.fr Fa (fun _ _ h => h)) (HF2.out.trans Fa).size (Fr.refl wa) wr.heap.size BX p hpx hpy (by rw [HML2.out]; omega)
          have G7 : Fr (fun _ => False) wo w7 := (HF2.out.trans Fa).trans' F7 (fun i hi e => absurd hi (by have := (HRW2.out.keep i e).1; omega))
          have HG7 := Lib.hid G7
          rw [HML2.out] at hrun hrow7
          have HRUN := Lib.hid hrun
          have HROW7 := Lib.hid hrow7
          have hS : ∀ w', Fr (fun _ => False) wb w' → w'.cell? ⟨b, off + j, none⟩ = some (.slice (some ⟨b1, o1, none⟩) r.length cr) ∧ w'.cell? ⟨b1, o1 + i * 2, none⟩ = some (.slice ax p.o.length cx) ∧ w'.cell? ⟨b1, o1 + i * 2 + 1, none⟩ = some (.slice ay p.b.length cy) := fun w' f => ⟨f.cell HE0.out (fun h => h), f.cell e1' (fun h => h), f.cell e2' (fun h => h)⟩
          have HC0 := Lib.hid (hS wr.drew (((HFB.out.trans HF.out).trans HF2.out).drew))
          have HCa := Lib.hid (hS wa (((HFB.out.trans HF.out).trans HF2.out).trans Fa))
          have HC7 := Lib.hid (hS w7 ((HFB.out.trans HF.out).trans G7))
          rw [hwa] at HCa HRUN
          clear hrun hrow7 F7 G7 BX Fa hwa hx hy hp e1 e2 e1' e2' hpx hpy hS
          go_upto_region 9 with fail
          go_region_held3 (fun w' => w'.cell? ⟨b, off + j, none⟩ = some (.slice (some ⟨b1, o1, none⟩) r.length cr) ∧ w'.cell? ⟨b1, o1 + i * 2, none⟩ = some (.slice ax p.o.length cx) ∧ w'.cell? ⟨b1, o1 + i * 2 + 1, none⟩ = some (.slice ay p.b.length cy)) (first | exact HC0.out | exact HCa.out | exact HC7.out) (first
            | (refine step_append_run (by rfl) (.tmp 22) (.tmp 40) 73 (by rfl) _ w7 (by exact HRUN.out) ?_)
            | fail)
          all_goals
            go_wp2_with fail
            go_roundg (r.length - (i + 1))
            case measure => rw [HG2.out]; omega
            case rel => exact ⟨i + 1, a7, c7, rfl, by omega, rfl, by go_num, by rw [HMT2.out]; exact HROW7.out, HG7.out⟩
        · obtain rfl : i = r.length := by omega
          have hrow2 := HRW2.out
          rw [List.take_length] at hrow2
          have hkp := HRW.out.keep
          have hsw := HFB.out.size
          have hsf := HF.out.size
          have hk2 : Kept (fun W => Attrs W (.slice a2 r.length c2) r) (fun k => (Value.slice au j cu).ownBlock = some k ∨ (wb.heap.size ≤ k ∧ k < w.heap.size)) wr := hrow2.kept ((HFB.out.trans HF.out).trans HF2.out) _ (fun k e => by
            rcases e with e | e
            · have := hkp k e; omega
            · omega)
          obtain ⟨a7, c7, w7, hrun, hrow7, F7⟩ := FRow.add Tryz.underlying25 info73 (HRW.out.old HF2.out) (HF.out.trans HF2.out).size ((Fr.refl wr).alloc (.cells #[.slice a2 r.length c2] 73)) wr.heap.size _ r (Blk.new wr 73 #[.slice a2 r.length c2]) rfl hk2 (by rw [HML.out]; omega)
          have HG7 := Lib.hid ((HF.out.trans HF2.out).trans' F7 (fun i hi e => absurd hi (by have := (hkp i e).1; omega)))
          rw [HML.out] at hrun hrow7
          have HRUN := Lib.hid hrun
          have HROW7 := Lib.hid hrow7
          clear hrun hrow7 F7 hk2 hkp hrow2
          go_wp2_with (at_builtin; refine wpList_append_run (by rfl) (.tmp 42) (.tmp 44) 25 (by rfl) _ w7 (by exact HRUN.out) ?_)
          go_roundg (n.length - (j + 1))
          case measure => rw [HG.out]; omega
          case rel => exact ⟨j + 1, a7, c7, rfl, by omega, rfl, by go_num, by rw [HMT.out]; exact HROW7.out, HG7.out⟩
    · obtain rfl : j = n.length := by omega
      have hrow := HRW.out
      rw [List.take_length] at hrow
      have HROW := Lib.hid hrow
      clear hrow
      go_wp2_with fail
      go_ret
      exact ⟨⟨au, cu, rfl, HROW.out⟩, F⟩
end Go.Proofs.YthjcoolefboodaaGreatDoor

namespace Go.Q
open Go Go.RowKit
theorem NameAt.cut {w : World} {a : Option Addr} {c : Nat} {n : List (List Part)} (h : NameAt w (.slice a n.length c) n) (N m : Nat) (hm : m = min n.length N) : NameAt w (.slice a m c) (n.take N) := by
  obtain ⟨a0, c0, he, h1, h2, h3⟩ := h
  simp only [Value.slice.injEq] at he
  obtain ⟨rfl, -, rfl⟩ := he
  have hl : (n.take N).length = m := by rw [List.length_take]; omega
  refine ⟨a, c, by rw [hl], by omega, h2, fun h0 => ?_⟩
  obtain ⟨b, o, rfl, hy⟩ := h3 (by omega)
  refine ⟨b, o, rfl, fun i r hr => hy i r ?_⟩
  rw [List.getElem?_take] at hr
  split at hr
  · exact hr
  · cases hr
theorem NameAt.shape {w : World} {v : Value} {n : List (List Part)} (h : NameAt w v n) : ∃ a c, v = .slice a n.length c := by
  obtain ⟨a, c, rfl, -⟩ := h
  exact ⟨a, c, rfl⟩
theorem FRow.at {K : Nat → Prop} {t : TypeId} {w : World} {base : Nat} {v : Value} {n : List (List Part)} (h : FRow K t w base v n) : NameAt w v n := by
  obtain ⟨us, h1, h2, h3⟩ := h
  obtain ⟨a, cap, he, hc, hm, hx⟩ := (Vals.of_own h1).1
  rw [h2] at he hc hx
  refine ⟨a, cap, he, hc, hm, fun h0 => ?_⟩
  obtain ⟨b, o, rfl, hy⟩ := hx h0
  refine ⟨b, o, rfl, fun i r hr => ?_⟩
  have hi : i < us.length := by rw [h2]; exact (List.getElem?_eq_some_iff.1 hr).1
  have hu : us[i]? = some us[i] := List.getElem?_eq_getElem hi
  exact ⟨_, hy i _ hu, (h3 i _ r hu hr).now⟩
theorem FRow.kept {K : Nat → Prop} {t : TypeId} {w : World} {base : Nat} {v : Value} {n : List (List Part)} (h : FRow K t w base v n) (K' : Nat → Prop) (hK : ∀ k, K' k → K k ∧ k < base) : Kept (fun W => NameAt W v n) K' w := fun W f => by
  obtain ⟨us, h1, h2, h3⟩ := h
  have hk := (Vals.of_own h1).2
  refine FRow.at (K := K') (t := t) (base := base) ⟨us, Go.Proofs.YthjcoolefboodaaGreatDoor.ownsRow_fr h1 f (fun k hk2 hs => by have := (hk k hk2).1; have := (hK k hs).2; omega), h2, fun i u r hu hr => (h3 i u r hu hr).step f (fun k _ hs => .inr (hK k hs).1) (fun k hs => ?_)⟩
  rcases hs with hs | hs
  · exact .inl (.inl hs)
  · exact .inl (.inr (hK k hs).1)
end Go.Q

namespace Go.Q
open Go Go.RowKit
structure Ext where
  o : List Int
  c : Bool
  v : List UInt8
def RExt (W : World) (cs : List Value) (x : Ext) : Prop := ∃ vo vv, cs = [vo, .bool x.c, vv] ∧ Ints W vo x.o ∧ Bytes W vv x.v
abbrev Exts (W : World) (v : Value) (l : List Ext) : Prop := LAt 3 RExt W v l
theorem RExt.old (w w' : World) (cs : List Value) (x : Ext) (h : RExt w cs x) (f : Fr (fun _ => False) w w') : RExt w' cs x := by
  obtain ⟨vo, vv, rfl, h1, h2⟩ := h
  exact ⟨vo, vv, rfl, h1.old f, h2.old f⟩
theorem Exts.old {w w' : World} {v : Value} {l : List Ext} (h : Exts w v l) (f : Fr (fun _ => False) w w') : Exts w' v l := LAt.old RExt.old h f
def ExtAt (W : World) (u : Value) (x : Ext) : Prop := ∃ vo vv, u = .agg #[vo, .bool x.c, vv] ∧ Ints W vo x.o ∧ Bytes W vv x.v
theorem ExtAt.old {w w' : World} {u : Value} {x : Ext} (h : ExtAt w u x) (f : Fr (fun _ => False) w w') : ExtAt w' u x := by
  obtain ⟨vo, vv, rfl, h1, h2⟩ := h
  exact ⟨vo, vv, rfl, h1.old f, h2.old f⟩
theorem ExtAt.form {w : World} {u : Value} {x : Ext} (h : ExtAt w u x) : ∃ ao co av cv, u = .agg #[.slice ao x.o.length co, .bool x.c, .slice av x.v.length cv] ∧ Ints w (.slice ao x.o.length co) x.o ∧ Bytes w (.slice av x.v.length cv) x.v := by
  obtain ⟨vo, vv, rfl, h1, h2⟩ := h
  obtain ⟨ao, co, rfl, -⟩ := Ints.form h1
  obtain ⟨av, cv, rfl, -⟩ := h2.form
  exact ⟨ao, co, av, cv, rfl, h1, h2⟩
theorem Exts.get {w : World} {a : Option Addr} {n c : Nat} {l : List Ext} (h : Exts w (.slice a n c) l) {i : Nat} {x : Ext} (hi : l[i]? = some x) : ∃ b o ao co av cv, a = some ⟨b, o, none⟩ ∧ n = l.length ∧ ExtAt w (.agg #[.slice ao x.o.length co, .bool x.c, .slice av x.v.length cv]) x ∧ w.cell? ⟨b, o + i * 3, none⟩ = some (.slice ao x.o.length co) ∧ w.cell? ⟨b, o + i * 3 + 1, none⟩ = some (.bool x.c) ∧ w.cell? ⟨b, o + i * 3 + 2, none⟩ = some (.slice av x.v.length cv) := by
  obtain ⟨a0, c0, he, h1, h2, h3⟩ := h
  simp only [Value.slice.injEq] at he
  obtain ⟨rfl, rfl, rfl⟩ := he
  have hil := (List.getElem?_eq_some_iff.1 hi).1
  obtain ⟨b, o, rfl, hy⟩ := h3 (by omega)
  obtain ⟨cs, -, e2, vo, vv, rfl, g1, g2⟩ := hy i x hi
  obtain ⟨ao, co, rfl, -⟩ := Ints.form g1
  obtain ⟨av, cv, rfl, -⟩ := g2.form
  rw [Nat.mul_comm] at e2
  exact ⟨b, o, ao, co, av, cv, rfl, rfl, ⟨_, _, rfl, g1, g2⟩, e2 0 _ rfl, e2 1 _ rfl, e2 2 _ rfl⟩
theorem Exts.cut {w : World} {a : Option Addr} {c : Nat} {l : List Ext} (h : Exts w (.slice a l.length c) l) (N m : Nat) (hm : m = min l.length N) : Exts w (.slice a m c) (l.take N) := by
  obtain ⟨a0, c0, he, h1, h2, h3⟩ := h
  simp only [Value.slice.injEq] at he
  obtain ⟨rfl, -, rfl⟩ := he
  have hl : (l.take N).length = m := by rw [List.length_take]; omega
  refine ⟨a, c, by rw [hl], by omega, h2, fun h0 => ?_⟩
  obtain ⟨b, o, rfl, hy⟩ := h3 (by omega)
  refine ⟨b, o, rfl, fun i r hr => hy i r ?_⟩
  rw [List.getElem?_take] at hr
  split at hr
  · exact hr
  · cases hr
structure CertT where
  below : Bool
  size : List UInt8
  iss : List (List Part)
  sub : List (List Part)
  t0 : Int
  t1 : Int
  ao : List Int
  ap : List UInt8
  kn : List UInt8
  ex : List Ext
def CertIn (W : World) (x : CertT) (vs vi vj va vp vk ve : Value) : Prop := Bytes W vs x.size ∧ NameAt W vi x.iss ∧ NameAt W vj x.sub ∧ Ints W va x.ao ∧ Bytes W vp x.ap ∧ Bytes W vk x.kn ∧ Exts W ve x.ex
def CertAt (W : World) (u : Value) (x : CertT) : Prop := ∃ vs vi vj va vp vk ve, u = .agg #[.bool x.below, vs, vi, vj, .int .i64 x.t0, .int .i64 x.t1, va, vp, vk, ve] ∧ CertIn W x vs vi vj va vp vk ve
theorem CertIn.old {w w' : World} {x : CertT} {vs vi vj va vp vk ve : Value} (h : CertIn w x vs vi vj va vp vk ve) (f : Fr (fun _ => False) w w') : CertIn w' x vs vi vj va vp vk ve := by
  obtain ⟨h1, h2, h3, h4, h5, h6, h7⟩ := h
  exact ⟨h1.old f, h2.old f, h3.old f, h4.old f, h5.old f, h6.old f, h7.old f⟩
theorem CertAt.old {w w' : World} {u : Value} {x : CertT} (h : CertAt w u x) (f : Fr (fun _ => False) w w') : CertAt w' u x := by
  obtain ⟨vs, vi, vj, va, vp, vk, ve, rfl, h1⟩ := h
  exact ⟨vs, vi, vj, va, vp, vk, ve, rfl, h1.old f⟩
def cutExt (x : Ext) : Ext := ⟨x.o.take 40, x.c, x.v.take 200⟩
def cutCert (x : CertT) : CertT := ⟨x.below, x.size.take 100, cutName (x.iss.take 5), cutName (x.sub.take 5), x.t0, x.t1, x.ao.take 40, x.ap.take 200, x.kn.take 100, ((x.ex.take 10).take 70).map cutExt⟩
end Go.Q

namespace Go.Q
open Go Go.RowKit Go.ChangeShapes
variable {H : Type} {enc : TypeId × Value → H} {P : Program} {w : World} {base : Nat} {spare : Nat → Bool} {held : Bool}
theorem trod_struct7 {t : TypeId} {f0 f1 f2 f3 f4 f5 f6 : Field} {fuel : Nat} {cs : List Value} {x : DataW H × List MemPlace} (ht : P.underlying t = some (.struct #[f0, f1, f2, f3, f4, f5, f6])) (h : DataW.trod enc P w base spare held fuel t cs = some x) :
    ∃ y0 y1 y2 y3 y4 y5 y6 n, cs.length = P.cellsOf t ∧ DataW.trod enc P w base spare held n f0.type ((cs.drop f0.offset).take (P.cellsOf f0.type)) = some y0 ∧
      DataW.trod enc P w base spare held n f1.type ((cs.drop f1.offset).take (P.cellsOf f1.type)) = some y1 ∧ DataW.trod enc P w base spare held n f2.type ((cs.drop f2.offset).take (P.cellsOf f2.type)) = some y2 ∧
      DataW.trod enc P w base spare held n f3.type ((cs.drop f3.offset).take (P.cellsOf f3.type)) = some y3 ∧ DataW.trod enc P w base spare held n f4.type ((cs.drop f4.offset).take (P.cellsOf f4.type)) = some y4 ∧
      DataW.trod enc P w base spare held n f5.type ((cs.drop f5.offset).take (P.cellsOf f5.type)) = some y5 ∧ DataW.trod enc P w base spare held n f6.type ((cs.drop f6.offset).take (P.cellsOf f6.type)) = some y6 := by
  obtain ⟨xs, n, _, rfl, hl, hlen, hf⟩ := DataW.trod_struct ht h
  match xs, hlen with
  | [y0, y1, y2, y3, y4, y5, y6], _ => exact ⟨y0, y1, y2, y3, y4, y5, y6, n, hl, by simpa using hf 0 f0 rfl, by simpa using hf 1 f1 rfl, by simpa using hf 2 f2 rfl, by simpa using hf 3 f3 rfl, by simpa using hf 4 f4 rfl, by simpa using hf 5 f5 rfl, by simpa using hf 6 f6 rfl⟩
theorem ten_of {α : Type} {l : List α} (h : l.length = 10) : ∃ a b c d e f g i j k, l = [a, b, c, d, e, f, g, i, j, k] := by
  match l, h with
  | [a, b, c, d, e, f, g, i, j, k], _ => exact ⟨a, b, c, d, e, f, g, i, j, k, rfl⟩
end Go.Q

namespace Go.Proofs.YthjcoolefboodaaGreatDoor
open Go Go.RowKit Go.Q Go.ChangeShapes Go.WideShapes Go.ChangeAt
theorem three_of {α : Type} {l : List α} (h : l.length = 3) : ∃ a b c, l = [a, b, c] := by
  match l, h with
  | [a, b, c], _ => exact ⟨a, b, c, rfl⟩
section
variable {H : Type} {enc : TypeId × Value → H} {w : World} {base fuel : Nat} {spare : Nat → Bool} {held : Bool} {cs : List Value} {x : DataW H × List MemPlace}
theorem rc4 : Tryz.prog.cellsOf 4 = 1 := by kernel_rfl
theorem rc25 : Tryz.prog.cellsOf 25 = 1 := by kernel_rfl
theorem rc24 : Tryz.prog.cellsOf 24 = 2 := by kernel_rfl
theorem rc79 : Tryz.prog.cellsOf 79 = 3 := by kernel_rfl
theorem rc31 : Tryz.prog.cellsOf 31 = 1 := by kernel_rfl
theorem rc28 : Tryz.prog.cellsOf 28 = 2 := by kernel_rfl
theorem rc30 : Tryz.prog.cellsOf 30 = 3 := by kernel_rfl
theorem rc33 : Tryz.prog.cellsOf 33 = 10 := by kernel_rfl
theorem rd_num (h : DataW.trod enc Tryz.prog w base spare held fuel 24 cs = some x) : ∃ b v l, cs = [.bool b, v] ∧ Bytes w v l := by
  obtain ⟨y0, y1, n, _, hl, h0, h1⟩ := Go.ChangeShapes.trod_struct2 Tryz.underlying24 h
  rw [rc24] at hl
  obtain ⟨c0, c1, rfl⟩ := two_of hl
  have g0 : DataW.trod enc Tryz.prog w base spare held n 4 [c0] = some y0 := by rw [← show ([c0, c1].drop 0).take (Tryz.prog.cellsOf 4) = [c0] from by rw [rc4]; rfl]; exact h0
  have g1 : DataW.trod enc Tryz.prog w base spare held n 22 [c1] = some y1 := by rw [← show ([c0, c1].drop 1).take (Tryz.prog.cellsOf 22) = [c1] from by rw [rc22]; rfl]; exact h1
  obtain ⟨b, e, -⟩ := DataW.trod_bool Tryz.underlying4 g0
  obtain ⟨v, l, e1, hb⟩ := rd_bytes g1
  simp only [List.cons.injEq, and_true] at e e1
  subst e; subst e1
  exact ⟨b, c1, l, rfl, hb⟩
theorem rd_ext (h : DataW.trod enc Tryz.prog w base spare held fuel 79 cs = some x) : ∃ y : Ext, RExt w cs y := by
  obtain ⟨y0, y1, y2, n, _, hl, h0, h1, h2⟩ := Go.Deep.trod_struct3 Tryz.underlying79 h
  rw [rc79] at hl
  obtain ⟨c0, c1, c2, rfl⟩ := three_of hl
  have g0 : DataW.trod enc Tryz.prog w base spare held n 26 [c0] = some y0 := by rw [← show ([c0, c1, c2].drop 0).take (Tryz.prog.cellsOf 26) = [c0] from by rw [rc26]; rfl]; exact h0
  have g1 : DataW.trod enc Tryz.prog w base spare held n 4 [c1] = some y1 := by rw [← show ([c0, c1, c2].drop 1).take (Tryz.prog.cellsOf 4) = [c1] from by rw [rc4]; rfl]; exact h1
  have g2 : DataW.trod enc Tryz.prog w base spare held n 22 [c2] = some y2 := by rw [← show ([c0, c1, c2].drop 2).take (Tryz.prog.cellsOf 22) = [c2] from by rw [rc22]; rfl]; exact h2
  obtain ⟨v, o, e0, ho⟩ := rd_ints g0
  obtain ⟨b, e1, -⟩ := DataW.trod_bool Tryz.underlying4 g1
  obtain ⟨u, l, e2, hb⟩ := rd_bytes g2
  simp only [List.cons.injEq, and_true] at e0 e1 e2
  subst e0; subst e1; subst e2
  exact ⟨⟨o, b, l⟩, c0, c2, rfl, ho, hb⟩
theorem rd_exts (h : DataW.trod enc Tryz.prog w base spare held fuel 31 cs = some x) : ∃ v l, cs = [v] ∧ Exts w v l := by
  obtain ⟨a, cap, l, rfl, h1, h2, h3⟩ := rd_slice Tryz.underlying31 rc79 (by decide) (fun (g : Ext) ds => RExt w ds g) (fun n ds y hy _ => rd_ext hy) h
  refine ⟨_, l, rfl, a, cap, rfl, h1, h2, fun h0 => ?_⟩
  obtain ⟨b, o, rfl, hy⟩ := h3 h0
  refine ⟨b, o, rfl, fun i g hg => ?_⟩
  obtain ⟨ds, hd, hr, hj⟩ := hy i g hg
  exact ⟨ds, hd, hj, hr⟩
theorem rd_alg (h : DataW.trod enc Tryz.prog w base spare held fuel 28 cs = some x) : ∃ v u o b, cs = [v, u] ∧ Ints w v o ∧ Bytes w u b := by
  obtain ⟨y0, y1, n, _, hl, h0, h1⟩ := Go.ChangeShapes.trod_struct2 Tryz.underlying28 h
  rw [rc28] at hl
  obtain ⟨c0, c1, rfl⟩ := two_of hl
  have g0 : DataW.trod enc Tryz.prog w base spare held n 26 [c0] = some y0 := by rw [← show ([c0, c1].drop 0).take (Tryz.prog.cellsOf 26) = [c0] from by rw [rc26]; rfl]; exact h0
  have g1 : DataW.trod enc Tryz.prog w base spare held n 22 [c1] = some y1 := by rw [← show ([c0, c1].drop 1).take (Tryz.prog.cellsOf 22) = [c1] from by rw [rc22]; rfl]; exact h1
  obtain ⟨v, o, e0, ho⟩ := rd_ints g0
  obtain ⟨u, l, e1, hb⟩ := rd_bytes g1
  simp only [List.cons.injEq, and_true] at e0 e1
  subst e0; subst e1
  exact ⟨c0, c1, o, l, rfl, ho, hb⟩
theorem rd_pub (h : DataW.trod enc Tryz.prog w base spare held fuel 30 cs = some x) : ∃ v u k o b m, cs = [v, u, k] ∧ Ints w v o ∧ Bytes w u b ∧ Bytes w k m := by
  obtain ⟨y0, y1, n, _, hl, h0, h1⟩ := Go.ChangeShapes.trod_struct2 Tryz.underlying30 h
  rw [rc30] at hl
  obtain ⟨c0, c1, c2, rfl⟩ := three_of hl
  have g0 : DataW.trod enc Tryz.prog w base spare held n 28 [c0, c1] = some y0 := by rw [← show ([c0, c1, c2].drop 0).take (Tryz.prog.cellsOf 28) = [c0, c1] from by rw [rc28]; rfl]; exact h0
  have g1 : DataW.trod enc Tryz.prog w base spare held n 22 [c2] = some y1 := by rw [← show ([c0, c1, c2].drop 2).take (Tryz.prog.cellsOf 22) = [c2] from by rw [rc22]; rfl]; exact h1
  obtain ⟨v, u, o, b, e0, ho, hb⟩ := rd_alg g0
  obtain ⟨k, m, e1, hk⟩ := rd_bytes g1
  simp only [List.cons.injEq, and_true] at e0 e1
  obtain ⟨rfl, rfl⟩ := e0
  subst e1
  exact ⟨c0, c1, c2, o, b, m, rfl, ho, hb, hk⟩
theorem rd_cert (h : DataW.trod enc Tryz.prog w base spare held fuel 33 cs = some x) : ∃ (y : CertT) (vs vi vj va vp vk ve : Value), cs = [.bool y.below, vs, vi, vj, .int .i64 y.t0, .int .i64 y.t1, va, vp, vk, ve] ∧ CertIn w y vs vi vj va vp vk ve := by
  obtain ⟨y0, y1, y2, y3, y4, y5, y6, n, hl, h0, h1, h2, h3, h4, h5, h6⟩ := trod_struct7 Tryz.underlying33 h
  rw [rc33] at hl
  obtain ⟨c0, c1, c2, c3, c4, c5, c6, c7, c8, c9, rfl⟩ := ten_of hl
  have g0 : DataW.trod enc Tryz.prog w base spare held n 24 [c0, c1] = some y0 := by rw [← show ([c0, c1, c2, c3, c4, c5, c6, c7, c8, c9].drop 0).take (Tryz.prog.cellsOf 24) = [c0, c1] from by rw [rc24]; rfl]; exact h0
  have g1 : DataW.trod enc Tryz.prog w base spare held n 25 [c2] = some y1 := by rw [← show ([c0, c1, c2, c3, c4, c5, c6, c7, c8, c9].drop 2).take (Tryz.prog.cellsOf 25) = [c2] from by rw [rc25]; rfl]; exact h1
  have g2 : DataW.trod enc Tryz.prog w base spare held n 25 [c3] = some y2 := by rw [← show ([c0, c1, c2, c3, c4, c5, c6, c7, c8, c9].drop 3).take (Tryz.prog.cellsOf 25) = [c3] from by rw [rc25]; rfl]; exact h2
  have g3 : DataW.trod enc Tryz.prog w base spare held n 3 [c4] = some y3 := by rw [← show ([c0, c1, c2, c3, c4, c5, c6, c7, c8, c9].drop 4).take (Tryz.prog.cellsOf 3) = [c4] from by rw [rc3]; rfl]; exact h3
  have g4 : DataW.trod enc Tryz.prog w base spare held n 3 [c5] = some y4 := by rw [← show ([c0, c1, c2, c3, c4, c5, c6, c7, c8, c9].drop 5).take (Tryz.prog.cellsOf 3) = [c5] from by rw [rc3]; rfl]; exact h4
  have g5 : DataW.trod enc Tryz.prog w base spare held n 30 [c6, c7, c8] = some y5 := by rw [← show ([c0, c1, c2, c3, c4, c5, c6, c7, c8, c9].drop 6).take (Tryz.prog.cellsOf 30) = [c6, c7, c8] from by rw [rc30]; rfl]; exact h5
  have g6 : DataW.trod enc Tryz.prog w base spare held n 31 [c9] = some y6 := by rw [← show ([c0, c1, c2, c3, c4, c5, c6, c7, c8, c9].drop 9).take (Tryz.prog.cellsOf 31) = [c9] from by rw [rc31]; rfl]; exact h6
  obtain ⟨b, vs, sz, e0, hs⟩ := rd_num g0
  obtain ⟨vi, ni, e1, hi⟩ := rd_name g1
  obtain ⟨vj, nj, e2, hj⟩ := rd_name g2
  obtain ⟨t0, e3, -, -⟩ := DataW.trod_int Tryz.underlying3 g3
  obtain ⟨t1, e4, -, -⟩ := DataW.trod_int Tryz.underlying3 g4
  obtain ⟨va, vp, vk, o, p, k, e5, ha, hp, hk⟩ := rd_pub g5
  obtain ⟨ve, ex, e6, he⟩ := rd_exts g6
  simp only [List.cons.injEq, and_true] at e0 e1 e2 e3 e4 e5 e6
  obtain ⟨rfl, rfl⟩ := e0
  obtain ⟨rfl, rfl, rfl⟩ := e5
  subst e1; subst e2; subst e3; subst e4; subst e6
  exact ⟨⟨b, sz, ni, nj, t0, t1, o, p, k, ex⟩, c1, c2, c3, c6, c7, c8, c9, rfl, hs, hi, hj, ha, hp, hk, he⟩
end
end Go.Proofs.YthjcoolefboodaaGreatDoor

namespace Go.Q
end Go.Q

namespace Go.Q
open Go Go.RowKit
instance : DecidableEq Part := fun p q => if h : p.o = q.o ∧ p.b = q.b then isTrue (by cases p; cases q; simp_all) else isFalse (fun e => h (by rw [e]; exact ⟨rfl, rfl⟩))
end Go.Q
namespace Go.Proofs.YthjcoolefboodaaGreatDoor
open Go Go.RowKit Go.Q
set_option linter.unusedSimpArgs false
end Go.Proofs.YthjcoolefboodaaGreatDoor

namespace Go.Q
open Go Go.RowKit
end Go.Q
namespace Go.Proofs.YthjcoolefboodaaGreatDoor
open Go Go.RowKit Go.Q
set_option linter.unusedSimpArgs false
end Go.Proofs.YthjcoolefboodaaGreatDoor

namespace Go.Proofs.YthjcoolefboodaaGreatDoor
open Go Go.RowKit Go.Q
set_option linter.unusedSimpArgs false
end Go.Proofs.YthjcoolefboodaaGreatDoor

namespace Go.Q
open Go Go.RowKit
end Go.Q
namespace Go.Proofs.YthjcoolefboodaaGreatDoor
open Go Go.RowKit Go.Q
set_option linter.unusedSimpArgs false
end Go.Proofs.YthjcoolefboodaaGreatDoor

namespace Go.Proofs.YthjcoolefboodaaGreatDoor
open Go Go.RowKit Go.Q
set_option linter.unusedSimpArgs false
end Go.Proofs.YthjcoolefboodaaGreatDoor

namespace Go.Q
open Go Go.RowKit
end Go.Q
namespace Go.Proofs.YthjcoolefboodaaGreatDoor
open Go Go.RowKit Go.Q
set_option linter.unusedSimpArgs false
end Go.Proofs.YthjcoolefboodaaGreatDoor

namespace Go.Q
open Go Go.RowKit
end Go.Q
namespace Go.Proofs.YthjcoolefboodaaGreatDoor
open Go Go.RowKit Go.Q
set_option linter.unusedSimpArgs false
end Go.Proofs.YthjcoolefboodaaGreatDoor

namespace Go.Proofs.YthjcoolefboodaaGreatDoor
open Go Go.RowKit Go.Q
set_option linter.unusedSimpArgs false
end Go.Proofs.YthjcoolefboodaaGreatDoor

namespace Go.Proofs.YthjcoolefboodaaGreatDoor
open Go Go.RowKit Go.Q
set_option linter.unusedSimpArgs false
end Go.Proofs.YthjcoolefboodaaGreatDoor

namespace Go.Q
open Go Go.RowKit
end Go.Q
namespace Go.Proofs.YthjcoolefboodaaGreatDoor
open Go Go.RowKit Go.Q
set_option linter.unusedSimpArgs false
end Go.Proofs.YthjcoolefboodaaGreatDoor

namespace Go.Q
open Go Go.RowKit
end Go.Q
namespace Go.Proofs.YthjcoolefboodaaGreatDoor
open Go Go.RowKit Go.Q
set_option linter.unusedSimpArgs false
end Go.Proofs.YthjcoolefboodaaGreatDoor

namespace Go.Q
open Go Go.RowKit
end Go.Q
namespace Go.Proofs.YthjcoolefboodaaGreatDoor
open Go Go.RowKit Go.Q
set_option linter.unusedSimpArgs false
end Go.Proofs.YthjcoolefboodaaGreatDoor

namespace Go.Proofs.YthjcoolefboodaaGreatDoor
open Go Go.RowKit Go.Q
set_option linter.unusedSimpArgs false
end Go.Proofs.YthjcoolefboodaaGreatDoor

namespace Go.Proofs.YthjcoolefboodaaGreatDoor
open Go Go.RowKit Go.Q
set_option linter.unusedSimpArgs false
end Go.Proofs.YthjcoolefboodaaGreatDoor

namespace Go.Q
open Go Go.RowKit
end Go.Q
namespace Go.Proofs.YthjcoolefboodaaGreatDoor
open Go Go.RowKit Go.Q
set_option linter.unusedSimpArgs false
end Go.Proofs.YthjcoolefboodaaGreatDoor

namespace Go.Proofs.YthjcoolefboodaaGreatDoor
open Go Go.RowKit Go.Q
set_option linter.unusedSimpArgs false
end Go.Proofs.YthjcoolefboodaaGreatDoor

namespace Go.Proofs.YthjcoolefboodaaGreatDoor
open Go Go.RowKit Go.Q
set_option linter.unusedSimpArgs false
end Go.Proofs.YthjcoolefboodaaGreatDoor

namespace Go.Q
open Go Go.RowKit
end Go.Q

namespace Go.Q
open Go Go.RowKit
theorem NameAt.take {w : World} {a : Option Addr} {m cap : Nat} {n : List (List Part)} (h : NameAt w (.slice a m cap) n) (k : Nat) (hk : k ≤ n.length) (cap' : Nat) (hc : k ≤ cap') (hm : cap' ≤ maxLen) : NameAt w (.slice a k cap') (n.take k) := by
  obtain ⟨a0, cap0, he, h1, h2, h3⟩ := h
  simp only [Value.slice.injEq] at he
  obtain ⟨rfl, rfl, rfl⟩ := he
  have hl : (n.take k).length = k := by rw [List.length_take]; omega
  refine ⟨a, cap', by rw [hl], by omega, hm, fun h0 => ?_⟩
  obtain ⟨b, o, rfl, hy⟩ := h3 (by omega)
  refine ⟨b, o, rfl, fun i r hr => hy i r ?_⟩
  rw [List.getElem?_take] at hr
  split at hr
  · exact hr
  · cases hr
end Go.Q

namespace Go.Proofs.YthjcoolefboodaaGreatDoor
open Go Go.RowKit Go.Q
end Go.Proofs.YthjcoolefboodaaGreatDoor

namespace Go.Q
open Go Go.RowKit
end Go.Q
namespace Go.Proofs.YthjcoolefboodaaGreatDoor
open Go Go.RowKit Go.Q
set_option linter.unusedSimpArgs false
end Go.Proofs.YthjcoolefboodaaGreatDoor

namespace Go.Q
open Go Go.RowKit
end Go.Q
namespace Go.Proofs.YthjcoolefboodaaGreatDoor
open Go Go.RowKit Go.Q
set_option linter.unusedSimpArgs false
end Go.Proofs.YthjcoolefboodaaGreatDoor

namespace Go.Proofs.YthjcoolefboodaaGreatDoor
open Go Go.RowKit Go.Q
set_option linter.unusedSimpArgs false
end Go.Proofs.YthjcoolefboodaaGreatDoor

namespace Go.Proofs.YthjcoolefboodaaGreatDoor
open Go Go.RowKit Go.Q
set_option linter.unusedSimpArgs false
end Go.Proofs.YthjcoolefboodaaGreatDoor

namespace Go.Proofs.YthjcoolefboodaaGreatDoor
open Go Go.RowKit Go.Q
set_option linter.unusedSimpArgs false
end Go.Proofs.YthjcoolefboodaaGreatDoor

namespace Go.Q
open Go Go.RowKit
end Go.Q
namespace Go.Proofs.YthjcoolefboodaaGreatDoor
open Go Go.RowKit Go.Q
set_option linter.unusedSimpArgs false
set_option maxRecDepth 20000 in
set_option maxHeartbeats 4000000 in
theorem lawToK_any (v : Value) (n : List (List Part)) (wb w : World) (h : NameAt wb v n) (Fb : Fr (fun _ => False) wb w) :
    Calls Tryz.prog 11 #[v] w fun e w' => (∃ a c, e = .returned (.slice a (cutName n).length c) ∧ FRow (fun k => wb.heap.size ≤ k ∧ k < w.heap.size) 75 w' w.heap.size (.slice a (cutName n).length c) (cutName n)) ∧ Fr (fun _ => False) w w' := by
  have H := Lib.hid h
  have HFB := Lib.hid Fb
  obtain ⟨a, cap, rfl, -⟩ := h
  have hcs : cutName n = (n.take 70).map cutStep := rfl
  have HCS := Lib.hid hcs
  clear hcs Fb
  go_enter Tryz.func11, Tryz.ntmps11
  go_wp2_with fail
  go_loopg [3, 4] n.length (fun g u i wr => ∃ (j : Nat) (au : Option Addr) (cu : Nat), g = n.length - j ∧ j ≤ n.length ∧ j ≤ 70 ∧ u = .slice au j cu ∧ i = .int .i64 j ∧ FRow (fun k => wb.heap.size ≤ k ∧ k < w.heap.size) 75 wr w.heap.size (.slice au j cu) ((n.take j).map cutStep) ∧ Fr (fun _ => False) w wr)
  case atStart => exact ⟨0, none, 0, rfl, Nat.zero_le _, by omega, rfl, rfl, FRow.nil _ _ _ _, Fr.refl _⟩
  case round =>
    obtain ⟨j, au, cu, hg, hj, hj70, rfl, rfl, hrow, F⟩ := hrel
    have HG := Lib.hid hg
    have HRW := Lib.hid hrow
    have HF := Lib.hid F
    have hml : ((n.take j).map cutStep).length = j := by rw [List.length_map, List.length_take]; omega
    have HML := Lib.hid hml
    clear hg hrow hml
    by_cases hjl : j < n.length
    · have q1 : (j : Int) < (n.length : Int) := by omega
      by_cases h70 : j < 70
      · have q2 : (j : Int) < 70 := by omega
        obtain ⟨a0, cap0, he, _, _, hx⟩ := H.out
        simp only [Value.slice.injEq, true_and] at he
        obtain ⟨rfl, rfl⟩ := he
        obtain ⟨b, off, rfl, hy⟩ := hx (by omega)
        obtain ⟨r, hr⟩ : ∃ r, n[j]? = some r := ⟨_, List.getElem?_eq_getElem hjl⟩
        obtain ⟨x, e0, hA⟩ := hy j r hr
        have e1 := (HFB.out.trans F).cell e0 (fun h => h)
        have HS := Lib.hid (lawStep_any x r wb wr hA (HFB.out.trans F))
        have HMT := Lib.hid (map_take_succ cutStep hr)
        have r1 : (0 : Int) ≤ (j : Int) := by omega
        clear hx hy hr e0 hA
        obtain ⟨wo, hwo⟩ : ∃ wo : World, wo = wr := ⟨_, rfl⟩
        obtain rfl := hwo
        go_wp2_with fail
        refine HS.out.mono ?_
        rintro e w2 ⟨⟨a2, c2, rfl, hrow2⟩, F2⟩
        have hkp := HRW.out.keep
        have hk2 : Kept (fun W => Attrs W (.slice a2 (cutStep r).length c2) (cutStep r)) (fun k => (Value.slice au j cu).ownBlock = some k ∨ (wb.heap.size ≤ k ∧ k < w.heap.size)) w2 := hrow2.kept ((HFB.out.trans HF.out).trans F2) _ (fun k e => by
          have g1 := HFB.out.size
          have g2 := HF.out.size
          rcases e with e | e
          · have := hkp k e
            omega
          · omega)
        obtain ⟨a7, c7, w7, hrun, hrow7, F7⟩ := FRow.add Tryz.underlying36 info75 (HRW.out.old F2) (HF.out.trans F2).size ((Fr.refl w2).alloc (.cells #[.slice a2 (cutStep r).length c2] 75)) w2.heap.size _ (cutStep r) (Blk.new w2 75 #[.slice a2 (cutStep r).length c2]) rfl hk2 (by rw [HML.out]; omega)
        have HG7 := Lib.hid ((HF.out.trans F2).trans' F7 (fun i hi e => absurd hi (by have := (hkp i e).1; omega)))
        rw [HML.out] at hrun hrow7
        have HRUN := Lib.hid hrun
        have HROW7 := Lib.hid hrow7
        clear hrun hrow7 F7 hk2 hkp hrow2 F2 e1 HS
        go_wp2_with (at_builtin; refine wpList_append_run (by rfl) (.tmp 15) (.tmp 21) 36 (by rfl) _ w7 (by exact HRUN.out) ?_)
        go_roundg (n.length - (j + 1))
        case measure => rw [HG.out]; omega
        case rel => exact ⟨j + 1, a7, c7, rfl, by omega, by omega, rfl, by go_num, by rw [HMT.out]; exact HROW7.out, HG7.out⟩
      · obtain rfl : j = 70 := by omega
        have q2 : ¬ ((70 : Nat) : Int) < 70 := by omega
        have hres : (n.take 70).map cutStep = cutName n := HCS.out.symm
        have hrow := HRW.out
        rw [hres] at hrow
        have hlen : 70 = (cutName n).length := by rw [← hres, HML.out]
        have HL := Lib.hid hlen
        have HROW := Lib.hid hrow
        clear hres hrow hlen
        go_wp2_with fail
        go_ret
        exact ⟨⟨au, cu, by rw [← HL.out]; rfl, by rw [← HL.out]; exact HROW.out⟩, F⟩
    · obtain rfl : j = n.length := by omega
      have hres : (n.take n.length).map cutStep = cutName n := by rw [HCS.out, List.take_of_length_le hj70, List.take_length]
      have hrow := HRW.out
      rw [hres] at hrow
      have hlen : n.length = (cutName n).length := by rw [← hres, HML.out]
      have HL := Lib.hid hlen
      have HROW := Lib.hid hrow
      clear hres hrow hlen
      go_wp2_with fail
      go_ret
      exact ⟨⟨au, cu, by rw [← HL.out]; rfl, by rw [← HL.out]; exact HROW.out⟩, F⟩
end Go.Proofs.YthjcoolefboodaaGreatDoor
