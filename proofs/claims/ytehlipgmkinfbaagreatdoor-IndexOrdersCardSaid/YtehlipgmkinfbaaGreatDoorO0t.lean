/-
  Merged by program: XR14N XR15R XR15L XGenTo XExt XCe17 XCe18 XCeTo XIxLw1 XGenF XGenFe XGpLaw XIxLw2 XIxTurn XIxOrW.
-/
import Derived.Test.YtehlipgmkinfbaaGreatDoorO0s
import Derived.Test.YtehlipgmkinfbaaGreatDoorO0n
import Derived.Deep.CutBlock
import Derived.Deep.CutRange
import Derived.Deep.Cut
import Derived.Test.YtehlipgmkinfbaaGreatDoorO0j
import Derived.Test.YtehlipgmkinfbaaGreatDoorO0k
import Derived.Test.YtehlipgmkinfbaaGreatDoorO0h
import Derived.Test.YtehlipgmkinfbaaGreatDoorO0o
import Derived.Test.YtehlipgmkinfbaaGreatDoorO0q
namespace Go.Q
open Go Go.RowKit
end Go.Q
namespace Go.Proofs.YtehlipgmkinfbaaGreatDoor
open Go Go.RowKit Go.Q
set_option linter.unusedSimpArgs false
def rNameOut (K : Nat → Prop) (w' : World) (p : Nat) (r : Except Int (List (List Part) × Nat)) (e : Ending) : Prop :=
  match r with
  | .error x => e = .returned (.tuple #[.slice none 0 0, .int .i64 p, .int .i64 x])
  | .ok (l, k) => ∃ a c, e = .returned (.tuple #[.slice a l.length c, .int .i64 ((p + k : Nat) : Int), .int .i64 0]) ∧ Kept (fun W => NameAt W (.slice a l.length c) l) K w'
def rParseOut (K : Nat → Prop) (w' : World) (r : Except Int (List (List Part))) (e : Ending) : Prop :=
  match r with
  | .error x => e = .returned (.tuple #[.slice none 0 0, .int .i64 x])
  | .ok l => ∃ a c, e = .returned (.tuple #[.slice a l.length c, .int .i64 0]) ∧ Kept (fun W => NameAt W (.slice a l.length c) l) K w'
end Go.Proofs.YtehlipgmkinfbaaGreatDoor

namespace Go.Proofs.YtehlipgmkinfbaaGreatDoor
open Go Go.RowKit Go.Q
set_option linter.unusedSimpArgs false
def rGenOut (K : Nat → Prop) (w' : World) (p : Nat) (r : Except Int (Gen × Nat)) (e : Ending) : Prop :=
  match r with
  | .error x => e = .returned (.tuple #[.agg #[.int .i64 0, .slice none 0 0, .slice none 0 0], .int .i64 p, .int .i64 x])
  | .ok (g, k) => ∃ ab cb an cn, e = .returned (.tuple #[.agg #[.int .i64 g.k, .slice ab g.b.length cb, .slice an g.n.length cn], .int .i64 ((p + k : Nat) : Int), .int .i64 0]) ∧ Kept (fun W => Bytes W (.slice ab g.b.length cb) g.b ∧ NameAt W (.slice an g.n.length cn) g.n) K w'
end Go.Proofs.YtehlipgmkinfbaaGreatDoor

namespace Go.Proofs.YtehlipgmkinfbaaGreatDoor
open Go Go.RowKit Go.Q
set_option linter.unusedSimpArgs false
def rGensOut (K : Nat → Prop) (w' : World) (r : Except Int (List Gen)) (e : Ending) : Prop :=
  match r with
  | .error x => e = .returned (.tuple #[.slice none 0 0, .int .i64 x])
  | .ok gs => ∃ a c, e = .returned (.tuple #[.slice a gs.length c, .int .i64 0]) ∧ Kept (fun W => Gens W (.slice a gs.length c) gs) K w'
def rListOut (K : Nat → Prop) (w' : World) (p : Nat) (r : Except Int (List Gen × Nat)) (e : Ending) : Prop :=
  match r with
  | .error x => e = .returned (.tuple #[.slice none 0 0, .int .i64 p, .int .i64 x])
  | .ok (gs, k) => ∃ a c, e = .returned (.tuple #[.slice a gs.length c, .int .i64 ((p + k : Nat) : Int), .int .i64 0]) ∧ Kept (fun W => Gens W (.slice a gs.length c) gs) K w'
end Go.Proofs.YtehlipgmkinfbaaGreatDoor

namespace Go.Q
open Go Go.RowKit
end Go.Q
namespace Go.Proofs.YtehlipgmkinfbaaGreatDoor
open Go Go.RowKit Go.Q
set_option linter.unusedSimpArgs false
set_option maxRecDepth 20000 in
set_option maxHeartbeats 4000000 in
theorem lawToK_any (v : Value) (n : List (List Part)) (wb w : World) (h : NameAt wb v n) (Fb : Fr (fun _ => False) wb w) :
    Calls Tryz.prog 24 #[v] w fun e w' => (∃ a c, e = .returned (.slice a (cutName n).length c) ∧ FRow (fun k => wb.heap.size ≤ k ∧ k < w.heap.size) 100 w' w.heap.size (.slice a (cutName n).length c) (cutName n)) ∧ Fr (fun _ => False) w w' := by
  have H := Lib.hid h
  have HFB := Lib.hid Fb
  obtain ⟨a, cap, rfl, -⟩ := h
  have hcs : cutName n = (n.take 70).map cutStep := rfl
  have HCS := Lib.hid hcs
  clear hcs Fb
  go_enter Tryz.func24, Tryz.ntmps24
  go_wp2_with fail
  go_loopg [3, 4] n.length (fun g u i wr => ∃ (j : Nat) (au : Option Addr) (cu : Nat), g = n.length - j ∧ j ≤ n.length ∧ j ≤ 70 ∧ u = .slice au j cu ∧ i = .int .i64 j ∧ FRow (fun k => wb.heap.size ≤ k ∧ k < w.heap.size) 100 wr w.heap.size (.slice au j cu) ((n.take j).map cutStep) ∧ Fr (fun _ => False) w wr)
  case atStart => exact ⟨0, none, 0, rfl, Nat.zero_le _, by omega, rfl, rfl, FRow.nil _ _ _ _, Fr.refl _⟩
  case round =>
    obtain ⟨j, au, cu, hg, hj, hj70, rfl, rfl, hrow, F⟩ := hrel
    have HG := Lib.hid hg
    have HRW := Lib.hid hrow
    have HF := Lib.hid F
    have hml : ((n.take j).map cutStep).length = j := by rw [List.length_map, List.length_take]; omega
    have HML := Lib.hid hml
    clear hg hrow hml
    by_cases hjl : j < n.length
    · have q1 : (j : Int) < (n.length : Int) := by omega
      by_cases h70 : j < 70
      · have q2 : (j : Int) < 70 := by omega
        obtain ⟨a0, cap0, he, _, _, hx⟩ := H.out
        simp only [Value.slice.injEq, true_and] at he
        obtain ⟨rfl, rfl⟩ := he
        obtain ⟨b, off, rfl, hy⟩ := hx (by omega)
        obtain ⟨r, hr⟩ : ∃ r, n[j]? = some r := ⟨_, List.getElem?_eq_getElem hjl⟩
        obtain ⟨x, e0, hA⟩ := hy j r hr
        have e1 := (HFB.out.trans F).cell e0 (fun h => h)
        have HS := Lib.hid (lawStep_any x r wb wr hA (HFB.out.trans F))
        have HMT := Lib.hid (map_take_succ cutStep hr)
        have r1 : (0 : Int) ≤ (j : Int) := by omega
        clear hx hy hr e0 hA
        obtain ⟨wo, hwo⟩ : ∃ wo : World, wo = wr := ⟨_, rfl⟩
        obtain rfl := hwo
        go_wp2_with fail
        refine HS.out.mono ?_
        rintro e w2 ⟨⟨a2, c2, rfl, hrow2⟩, F2⟩
        have hkp := HRW.out.keep
        have hk2 : Kept (fun W => Attrs W (.slice a2 (cutStep r).length c2) (cutStep r)) (fun k => (Value.slice au j cu).ownBlock = some k ∨ (wb.heap.size ≤ k ∧ k < w.heap.size)) w2 := hrow2.kept ((HFB.out.trans HF.out).trans F2) _ (fun k e => by
          have g1 := HFB.out.size
          have g2 := HF.out.size
          rcases e with e | e
          · have := hkp k e
            omega
          · omega)
        obtain ⟨a7, c7, w7, hrun, hrow7, F7⟩ := FRow.add Tryz.underlying37 info100 (HRW.out.old F2) (HF.out.trans F2).size ((Fr.refl w2).alloc (.cells #[.slice a2 (cutStep r).length c2] 100)) w2.heap.size _ (cutStep r) (Blk.new w2 100 #[.slice a2 (cutStep r).length c2]) rfl hk2 (by rw [HML.out]; omega)
        have HG7 := Lib.hid ((HF.out.trans F2).trans' F7 (fun i hi e => absurd hi (by have := (hkp i e).1; omega)))
        rw [HML.out] at hrun hrow7
        have HRUN := Lib.hid hrun
        have HROW7 := Lib.hid hrow7
        clear hrun hrow7 F7 hk2 hkp hrow2 F2 e1 HS
        go_wp2_with (at_builtin; refine wpList_append_run (by rfl) (.tmp 15) (.tmp 21) 37 (by rfl) _ w7 (by exact HRUN.out) ?_)
        go_roundg (n.length - (j + 1))
        case measure => rw [HG.out]; omega
        case rel => exact ⟨j + 1, a7, c7, rfl, by omega, by omega, rfl, by go_num, by rw [HMT.out]; exact HROW7.out, HG7.out⟩
      · obtain rfl : j = 70 := by omega
        have q2 : ¬ ((70 : Nat) : Int) < 70 := by omega
        have hres : (n.take 70).map cutStep = cutName n := HCS.out.symm
        have hrow := HRW.out
        rw [hres] at hrow
        have hlen : 70 = (cutName n).length := by rw [← hres, HML.out]
        have HL := Lib.hid hlen
        have HROW := Lib.hid hrow
        clear hres hrow hlen
        go_wp2_with fail
        go_ret
        exact ⟨⟨au, cu, by rw [← HL.out]; rfl, by rw [← HL.out]; exact HROW.out⟩, F⟩
    · obtain rfl : j = n.length := by omega
      have hres : (n.take n.length).map cutStep = cutName n := by rw [HCS.out, List.take_of_length_le hj70, List.take_length]
      have hrow := HRW.out
      rw [hres] at hrow
      have hlen : n.length = (cutName n).length := by rw [← hres, HML.out]
      have HL := Lib.hid hlen
      have HROW := Lib.hid hrow
      clear hres hrow hlen
      go_wp2_with fail
      go_ret
      exact ⟨⟨au, cu, by rw [← HL.out]; rfl, by rw [← HL.out]; exact HROW.out⟩, F⟩
end Go.Proofs.YtehlipgmkinfbaaGreatDoor

namespace Go.Q
open Go Go.RowKit
structure Ext where
  o : List Int
  c : Bool
  v : List UInt8
def RExt (W : World) (cs : List Value) (x : Ext) : Prop := ∃ vo vv, cs = [vo, .bool x.c, vv] ∧ Ints W vo x.o ∧ Bytes W vv x.v
abbrev Exts (W : World) (v : Value) (l : List Ext) : Prop := LAt 3 RExt W v l
theorem RExt.old (w w' : World) (cs : List Value) (x : Ext) (h : RExt w cs x) (f : Fr (fun _ => False) w w') : RExt w' cs x := by
  obtain ⟨vo, vv, rfl, h1, h2⟩ := h
  exact ⟨vo, vv, rfl, h1.old f, h2.old f⟩
theorem Exts.old {w w' : World} {v : Value} {l : List Ext} (h : Exts w v l) (f : Fr (fun _ => False) w w') : Exts w' v l := LAt.old RExt.old h f
def ExtAt (W : World) (u : Value) (x : Ext) : Prop := ∃ vo vv, u = .agg #[vo, .bool x.c, vv] ∧ Ints W vo x.o ∧ Bytes W vv x.v
theorem ExtAt.old {w w' : World} {u : Value} {x : Ext} (h : ExtAt w u x) (f : Fr (fun _ => False) w w') : ExtAt w' u x := by
  obtain ⟨vo, vv, rfl, h1, h2⟩ := h
  exact ⟨vo, vv, rfl, h1.old f, h2.old f⟩
theorem ExtAt.form {w : World} {u : Value} {x : Ext} (h : ExtAt w u x) : ∃ ao co av cv, u = .agg #[.slice ao x.o.length co, .bool x.c, .slice av x.v.length cv] ∧ Ints w (.slice ao x.o.length co) x.o ∧ Bytes w (.slice av x.v.length cv) x.v := by
  obtain ⟨vo, vv, rfl, h1, h2⟩ := h
  obtain ⟨ao, co, rfl, -⟩ := Ints.form h1
  obtain ⟨av, cv, rfl, -⟩ := h2.form
  exact ⟨ao, co, av, cv, rfl, h1, h2⟩
theorem Exts.get {w : World} {a : Option Addr} {n c : Nat} {l : List Ext} (h : Exts w (.slice a n c) l) {i : Nat} {x : Ext} (hi : l[i]? = some x) : ∃ b o ao co av cv, a = some ⟨b, o, none⟩ ∧ n = l.length ∧ ExtAt w (.agg #[.slice ao x.o.length co, .bool x.c, .slice av x.v.length cv]) x ∧ w.cell? ⟨b, o + i * 3, none⟩ = some (.slice ao x.o.length co) ∧ w.cell? ⟨b, o + i * 3 + 1, none⟩ = some (.bool x.c) ∧ w.cell? ⟨b, o + i * 3 + 2, none⟩ = some (.slice av x.v.length cv) := by
  obtain ⟨a0, c0, he, h1, h2, h3⟩ := h
  simp only [Value.slice.injEq] at he
  obtain ⟨rfl, rfl, rfl⟩ := he
  have hil := (List.getElem?_eq_some_iff.1 hi).1
  obtain ⟨b, o, rfl, hy⟩ := h3 (by omega)
  obtain ⟨cs, -, e2, vo, vv, rfl, g1, g2⟩ := hy i x hi
  obtain ⟨ao, co, rfl, -⟩ := Ints.form g1
  obtain ⟨av, cv, rfl, -⟩ := g2.form
  rw [Nat.mul_comm] at e2
  exact ⟨b, o, ao, co, av, cv, rfl, rfl, ⟨_, _, rfl, g1, g2⟩, e2 0 _ rfl, e2 1 _ rfl, e2 2 _ rfl⟩
theorem Exts.cut {w : World} {a : Option Addr} {c : Nat} {l : List Ext} (h : Exts w (.slice a l.length c) l) (N m : Nat) (hm : m = min l.length N) : Exts w (.slice a m c) (l.take N) := by
  obtain ⟨a0, c0, he, h1, h2, h3⟩ := h
  simp only [Value.slice.injEq] at he
  obtain ⟨rfl, -, rfl⟩ := he
  have hl : (l.take N).length = m := by rw [List.length_take]; omega
  refine ⟨a, c, by rw [hl], by omega, h2, fun h0 => ?_⟩
  obtain ⟨b, o, rfl, hy⟩ := h3 (by omega)
  refine ⟨b, o, rfl, fun i r hr => hy i r ?_⟩
  rw [List.getElem?_take] at hr
  split at hr
  · exact hr
  · cases hr
structure CertT where
  below : Bool
  size : List UInt8
  iss : List (List Part)
  sub : List (List Part)
  t0 : Int
  t1 : Int
  ao : List Int
  ap : List UInt8
  kn : List UInt8
  ex : List Ext
def CertIn (W : World) (x : CertT) (vs vi vj va vp vk ve : Value) : Prop := Bytes W vs x.size ∧ NameAt W vi x.iss ∧ NameAt W vj x.sub ∧ Ints W va x.ao ∧ Bytes W vp x.ap ∧ Bytes W vk x.kn ∧ Exts W ve x.ex
def CertAt (W : World) (u : Value) (x : CertT) : Prop := ∃ vs vi vj va vp vk ve, u = .agg #[.bool x.below, vs, vi, vj, .int .i64 x.t0, .int .i64 x.t1, va, vp, vk, ve] ∧ CertIn W x vs vi vj va vp vk ve
theorem CertIn.old {w w' : World} {x : CertT} {vs vi vj va vp vk ve : Value} (h : CertIn w x vs vi vj va vp vk ve) (f : Fr (fun _ => False) w w') : CertIn w' x vs vi vj va vp vk ve := by
  obtain ⟨h1, h2, h3, h4, h5, h6, h7⟩ := h
  exact ⟨h1.old f, h2.old f, h3.old f, h4.old f, h5.old f, h6.old f, h7.old f⟩
theorem CertAt.old {w w' : World} {u : Value} {x : CertT} (h : CertAt w u x) (f : Fr (fun _ => False) w w') : CertAt w' u x := by
  obtain ⟨vs, vi, vj, va, vp, vk, ve, rfl, h1⟩ := h
  exact ⟨vs, vi, vj, va, vp, vk, ve, rfl, h1.old f⟩
def cutExt (x : Ext) : Ext := ⟨x.o.take 40, x.c, x.v.take 200⟩
def cutCert (x : CertT) : CertT := ⟨x.below, x.size.take 100, cutName (x.iss.take 5), cutName (x.sub.take 5), x.t0, x.t1, x.ao.take 40, x.ap.take 200, x.kn.take 100, ((x.ex.take 10).take 70).map cutExt⟩
end Go.Q

namespace Go.Q
open Go Go.RowKit
theorem vals_keeps {wb w : World} {v : Value} {xs : List Value} (h : Vals wb v xs) (F : Fr (fun k => wb.heap.size ≤ k) wb w) (K : Nat → Prop) (hK : ∀ k, K k → wb.heap.size ≤ k) : Kept (fun W => Vals W v xs) K w := fun W f =>
  h.fr (F.trans (f.mono (fun k _ hk => hK k hk))) (fun h0 k hk hs => by have := h.lt h0 k hk; omega)
end Go.Q
namespace Go.Proofs.YtehlipgmkinfbaaGreatDoor
open Go Go.RowKit Go.Q
set_option linter.unusedSimpArgs false
def fewExts (l : List Ext) : List Ext := (l.take 70).map cutExt
end Go.Proofs.YtehlipgmkinfbaaGreatDoor

namespace Go.Q
open Go Go.RowKit
def AlgIn (W : World) (vo vp : Value) (o : List Int) (p : List UInt8) : Prop := Ints W vo o ∧ Bytes W vp p
def PubIn (W : World) (vo vp vk : Value) (o : List Int) (p k : List UInt8) : Prop := Ints W vo o ∧ Bytes W vp p ∧ Bytes W vk k
end Go.Q
namespace Go.Proofs.YtehlipgmkinfbaaGreatDoor
open Go Go.RowKit Go.Q
set_option linter.unusedSimpArgs false
end Go.Proofs.YtehlipgmkinfbaaGreatDoor

namespace Go.Proofs.YtehlipgmkinfbaaGreatDoor
open Go Go.RowKit Go.Q
set_option linter.unusedSimpArgs false
set_option maxRecDepth 20000 in
set_option maxHeartbeats 4000000 in
theorem lawNumTo_any (b : Bool) (vp : Value) (p : List UInt8) (wb w : World) (h : Bytes wb vp p) (Fb : Fr (fun _ => False) wb w) :
    Calls Tryz.prog 26 #[.agg #[.bool b, vp]] w fun e w' => (∃ a c, e = .returned (.agg #[.bool b, .slice a p.length c]) ∧ Kept (fun W => Bytes W (.slice a p.length c) p) (fun k => wb.heap.size ≤ k ∧ k < w.heap.size) w') ∧ Fr (fun _ => False) w w' := by
  obtain ⟨ap, cp, rfl, -⟩ := Vals.form h
  have HP := Lib.hid h
  obtain ⟨z, hz⟩ : ∃ z, z = w.heap.size := ⟨_, rfl⟩
  have HZ := Lib.hid hz
  have F0 : Fr (fun _ => False) w ((w.alloc (.cells #[.bool b, .slice ap p.length cp] 54)).alloc (.cells #[.bool false, .slice none 0 0] 40)) := ((Fr.refl w).alloc _).alloc _
  have B := (Blk.new w 54 #[.bool b, .slice ap p.length cp]).alloc (.cells #[.bool false, .slice none 0 0] 40)
  have D := Blk.new (w.alloc (.cells #[.bool b, .slice ap p.length cp] 54)) 40 #[.bool false, .slice none 0 0]
  rw [World.size_alloc, ← hz] at D
  rw [← hz] at B
  have HF0 := Lib.hid F0
  have hs0 : w.heap.size + 2 = ((w.alloc (.cells #[.bool b, .slice ap p.length cp] 54)).alloc (.cells #[.bool false, .slice none 0 0] 40)).heap.size := by rw [World.size_alloc, World.size_alloc]
  have HFB := Lib.hid Fb
  clear hz F0 Fb h
  go_enter Tryz.func26, Tryz.ntmps26
  go_upto_region 1 with fail
  rw [← HZ.out]
  have HS0 := Lib.hid hs0
  clear hs0
  generalize ((w.alloc (.cells #[.bool b, .slice ap p.length cp] 54)).alloc (.cells #[.bool false, .slice none 0 0] 40)) = w0 at *
  have G : Fr (fun _ => False) w w0 := HF0.out
  have e0 := B.cell 0
  have e1 := B.cell 1
  have d0 := D.cell 0
  have d1 := D.cell 1
  have f0 := D.frozen 0
  have f1 := D.frozen 1
  have D5 := set2 D (.bool b) (.slice ap p.length cp)
  have B5 := B.fr D5.2 (by omega)
  simp only [List.getElem?_toArray, List.getElem?_cons_succ, List.getElem?_cons_zero] at d0 d1 e0 e1
  all_goals
    have n0 := D5.1.cell 0
    have n1 := D5.1.cell 1
    simp only [List.getElem?_toArray, List.getElem?_cons_succ, List.getElem?_cons_zero] at n0 n1
    have hw1 := (HFB.out.trans G).mono (T := fun k => wb.heap.size ≤ k) (fun _ _ h => h.elim)
    have hkp := vals_keeps HP.out hw1 (fun k => wb.heap.size ≤ k ∧ k < w0.heap.size) (fun k hk => hk.1)
    have hsb := HFB.out.size
    have HK := Lib.hid (hkp.step (K' := fun k => wb.heap.size ≤ k ∧ k < w.heap.size) D5.2 (fun k hk e => by have := HZ.out; have := HS0.out; omega) (fun k hk => by have := HS0.out; exact .inl (by omega)))
    have HF := Lib.hid (G.trans' D5.2 (fun i hi e => by have := HZ.out; omega))
    clear hkp B D B5 D5 G hw1
    go_wp2_with fail
    exact bodyPost_ret (v := .agg #[.bool b, .slice ap p.length cp]) (by simp [results, Tryz.results26, go_sem, n0, n1]) rfl ⟨⟨ap, cp, rfl, HK.out⟩, HF.out⟩
end Go.Proofs.YtehlipgmkinfbaaGreatDoor

namespace Go.Proofs.YtehlipgmkinfbaaGreatDoor
open Go Go.RowKit Go.Q
set_option linter.unusedSimpArgs false
set_option maxRecDepth 20000 in
theorem short_any (v : Value) (n : List (List Part)) (wb w : World) (h : NameAt wb v n) (Fb : Fr (fun _ => False) wb w) :
    Calls Tryz.prog 33 #[v] w fun e w' => (∃ a c, e = .returned (.slice a (cutName (n.take 4)).length c) ∧ FRow (fun k => wb.heap.size ≤ k ∧ k < w.heap.size) 100 w' w.heap.size (.slice a (cutName (n.take 4)).length c) (cutName (n.take 4))) ∧ Fr (fun _ => False) w w' := by
  obtain ⟨a, c, rfl, hc, hm⟩ := NameAt.form h
  unfold maxLen at hm
  obtain ⟨m, hmm⟩ : ∃ m : Nat, m = min n.length 4 := ⟨_, rfl⟩
  have c1 : min (n.length : Int) 4 = (m : Int) := by omega
  have c2 : (m : Int) ≤ (c : Int) := by omega
  have c3 : (0 : Int) ≤ (m : Int) := by omega
  have H := Lib.hid (lawToK_any _ (n.take 4) wb w (NameAt.cut h 4 m hmm) Fb)
  obtain ⟨q, hq⟩ : ∃ q, q = cutName (n.take 4) := ⟨_, rfl⟩
  rw [← hq] at H ⊢
  clear h Fb hmm hq
  go_enter Tryz.func33, Tryz.ntmps33
  go_wp2_with fail
  refine H.out.mono ?_
  rintro e w1 ⟨⟨a1, k1, rfl, hr⟩, F1⟩
  have HR := Lib.hid hr
  clear hr
  go_wp2_with fail
  go_ret
  exact ⟨⟨a1, k1, rfl, HR.out⟩, F1⟩
set_option maxRecDepth 20000 in
set_option maxHeartbeats 4000000 in
theorem num_any (b : Bool) (v : Value) (s : List UInt8) (wb w : World) (h : Bytes wb v s) (Fb : Fr (fun _ => False) wb w) :
    Calls Tryz.prog 34 #[.agg #[.bool b, v]] w fun e w' => (∃ a c, e = .returned (.agg #[.bool b, .slice a (s.take 100).length c]) ∧ Kept (fun W => Bytes W (.slice a (s.take 100).length c) (s.take 100)) (fun k => wb.heap.size ≤ k ∧ k < w.heap.size) w') ∧ Fr (fun _ => False) w w' := by
  obtain ⟨a, c, rfl, hc, hm, -⟩ := Vals.form h
  unfold maxLen at hm
  obtain ⟨m, hmm⟩ : ∃ m : Nat, m = min s.length 100 := ⟨_, rfl⟩
  have c1 : min (s.length : Int) 100 = (m : Int) := by omega
  have c2 : (m : Int) ≤ (c : Int) := by omega
  have c3 : (0 : Int) ≤ (m : Int) := by omega
  obtain ⟨z, hz⟩ : ∃ z, z = w.heap.size := ⟨_, rfl⟩
  have HZ := Lib.hid hz
  have F0 : Fr (fun _ => False) w ((w.alloc (.cells #[.bool b, .slice a s.length c] 54)).alloc (.cells #[.bool false, .slice none 0 0] 40)) := ((Fr.refl w).alloc _).alloc _
  have B := (Blk.new w 54 #[.bool b, .slice a s.length c]).alloc (.cells #[.bool false, .slice none 0 0] 40)
  have D := Blk.new (w.alloc (.cells #[.bool b, .slice a s.length c] 54)) 40 #[.bool false, .slice none 0 0]
  rw [World.size_alloc, ← hz] at D
  rw [← hz] at B
  have hs0 : w.heap.size + 2 = ((w.alloc (.cells #[.bool b, .slice a s.length c] 54)).alloc (.cells #[.bool false, .slice none 0 0] 40)).heap.size := by rw [World.size_alloc, World.size_alloc]
  have HS0 := Lib.hid hs0
  have HF0 := Lib.hid F0
  have HFB := Lib.hid Fb
  have HSC := Lib.hid (Vals.cut h 100 m hmm)
  obtain ⟨q, hq⟩ : ∃ q, q = s.take 100 := ⟨_, rfl⟩
  rw [← hq] at HSC ⊢
  clear hz F0 Fb h hmm hs0 hq hc
  go_enter Tryz.func34, Tryz.ntmps34
  go_upto_region 1 with fail
  rw [← HZ.out]
  generalize ((w.alloc (.cells #[.bool b, .slice a s.length c] 54)).alloc (.cells #[.bool false, .slice none 0 0] 40)) = w0 at *
  have e1 := B.cell 1
  have f1 := B.frozen 1
  simp only [List.getElem?_toArray, List.getElem?_cons_succ, List.getElem?_cons_zero] at e1
  go_upto_region 2 with fail
  have B1 : Blk (w0.setCell ⟨z, 1, none⟩ (.slice a m c)) z 54 #[.bool b, .slice a m c] := B.set 1 (.slice a m c)
  have D1 := D.set_other (a := ⟨z, 1, none⟩) (show z + 1 ≠ z by omega) (.slice a m c)
  have F1 : Fr (fun k => k = z) w0 (w0.setCell ⟨z, 1, none⟩ (.slice a m c)) := (Fr.refl w0).setCell (S := fun k => k = z) (p := ⟨z, 1, none⟩) (fun _ => rfl) _
  have F1w : Fr (fun _ => False) w (w0.setCell ⟨z, 1, none⟩ (.slice a m c)) := HF0.out.trans' F1 (fun i hi e => by have := HZ.out; omega)
  have hs1 : (w0.setCell ⟨z, 1, none⟩ (.slice a m c)).heap.size = w0.heap.size := by simp [World.setCell]
  generalize w0.setCell ⟨z, 1, none⟩ (.slice a m c) = w1 at *
  have HO := Lib.hid (lawNumTo_any b _ q wb w1 HSC.out (HFB.out.trans F1w))
  have HF1 := Lib.hid F1w
  have g0 := B1.cell 0
  have g1 := B1.cell 1
  simp only [List.getElem?_toArray, List.getElem?_cons_succ, List.getElem?_cons_zero] at g0 g1
  have HD1 := Lib.hid D1
  have HS1 := Lib.hid hs1
  clear e1 f1 F1 F1w D1 B D hs1 B1
  go_wp2_with (go_at_call 26; refine HO.out.mono ?_; rintro e w2 ⟨⟨a2, k2, rfl, hk⟩, F2⟩; have D2 := HD1.out.fr F2 (fun h => h); have d0 := D2.cell 0; have d1 := D2.cell 1; have t0 := D2.frozen 0; have t1 := D2.frozen 1; have D5 := set2 D2 (.bool b) (.slice a2 q.length k2); have n0 := D5.1.cell 0; have n1 := D5.1.cell 1; simp only [List.getElem?_toArray, List.getElem?_cons_succ, List.getElem?_cons_zero] at d0 d1 n0 n1; have hsb := HFB.out.size; have HK := Lib.hid (hk.step (K' := fun k => wb.heap.size ≤ k ∧ k < w.heap.size) D5.2 (fun k hk e => by have := HZ.out; have := HS0.out; have := HS1.out; omega) (fun k hk => by have := HS0.out; have := HS1.out; exact .inl (by omega))); have HF := Lib.hid ((HF1.out.trans F2).trans' D5.2 (fun i hi e => by have := HZ.out; omega)); clear hk F2 D2 D5 g0 g1)
  exact bodyPost_ret (v := .agg #[.bool b, .slice a2 q.length k2]) (by simp [results, Tryz.results34, go_sem, n0, n1]) rfl ⟨⟨a2, k2, rfl, HK.out⟩, HF.out⟩
end Go.Proofs.YtehlipgmkinfbaaGreatDoor

namespace Go.Q
open Go Go.RowKit
def cutGen (g : Gen) : Gen := ⟨g.k, g.b.take 300, cutName (g.n.take 5)⟩
end Go.Q
namespace Go.Proofs.YtehlipgmkinfbaaGreatDoor
open Go Go.RowKit Go.Q
set_option linter.unusedSimpArgs false
end Go.Proofs.YtehlipgmkinfbaaGreatDoor

namespace Go.Q
open Go Go.RowKit
def fewS (l : List Gen) : List Gen := (l.take 20).map cutGen
end Go.Q
namespace Go.Proofs.YtehlipgmkinfbaaGreatDoor
open Go Go.RowKit Go.Q
set_option linter.unusedSimpArgs false
end Go.Proofs.YtehlipgmkinfbaaGreatDoor

namespace Go.Q
open Go Go.RowKit
theorem NamesL.get {w : World} {a : Option Addr} {n c : Nat} {l : List (List (List Part))} (h : NamesL w (.slice a n c) l) {i : Nat} {x : List (List Part)} (hi : l[i]? = some x) : ∃ b o an cn, a = some ⟨b, o, none⟩ ∧ n = l.length ∧ NameAt w (.slice an x.length cn) x ∧ w.cell? ⟨b, o + i, none⟩ = some (.slice an x.length cn) := by
  obtain ⟨a0, c0, he, h1, h2, h3⟩ := h
  simp only [Value.slice.injEq] at he
  obtain ⟨rfl, rfl, rfl⟩ := he
  have hil := (List.getElem?_eq_some_iff.1 hi).1
  obtain ⟨b, o, rfl, hy⟩ := h3 (by omega)
  obtain ⟨cs, -, e2, u, rfl, g1⟩ := hy i x hi
  have g2 := g1
  obtain ⟨an, cn, rfl, -⟩ := g2
  have := e2 0 _ rfl
  rw [Nat.one_mul] at this
  exact ⟨b, o, an, cn, rfl, rfl, g1, this⟩
theorem cutName_fit (n : List (List Part)) : fitN (cutName n) := by
  refine ⟨by have := cutName_len n; omega, fun r hr => ⟨cutName_few n r hr, ?_, fun p hp => ?_⟩⟩
  · obtain ⟨s, -, rfl⟩ := List.mem_map.1 hr
    have := cutStep_len s
    omega
  · obtain ⟨s, -, rfl⟩ := List.mem_map.1 hr
    obtain ⟨q, -, rfl⟩ := List.mem_map.1 hp
    show (q.o.take 40).length ≤ _
    rw [List.length_take]
    omega
def Bag (t : TypeId) (w0 W : World) (l : List Nat) : Prop := Fr (fun _ => False) w0 W ∧ l.Nodup ∧ ∀ z ∈ l, w0.heap.size ≤ z ∧ Blk W z t #[.int .i64 0, .slice none 0 0, .slice none 0 0]
theorem Bag.lt {t : TypeId} {w0 W : World} {l : List Nat} (h : Bag t w0 W l) : ∀ z ∈ l, z < W.heap.size := fun z hz => (h.2.2 z hz).2.lt
theorem Bag.more {t : TypeId} {w0 W : World} {l : List Nat} (h : Bag t w0 W l) : Bag t w0 (W.alloc (.cells #[.int .i64 0, .slice none 0 0, .slice none 0 0] t)) (W.heap.size :: l) := by
  refine ⟨h.1.alloc _, List.nodup_cons.2 ⟨fun hm => Nat.lt_irrefl _ (h.lt _ hm), h.2.1⟩, fun z hz => ?_⟩
  rcases List.mem_cons.1 hz with rfl | hz
  · exact ⟨h.1.size, Blk.new _ _ _⟩
  · exact ⟨(h.2.2 z hz).1, (h.2.2 z hz).2.alloc _⟩
theorem Bag.call {t : TypeId} {w0 W W' : World} {l : List Nat} (h : Bag t w0 W l) (F : Fr (fun _ => False) W W') : Bag t w0 W' l := ⟨h.1.trans F, h.2.1, fun z hz => ⟨(h.2.2 z hz).1, (h.2.2 z hz).2.fr F (fun h => h)⟩⟩
theorem Bag.drew {t : TypeId} {w0 W : World} {l : List Nat} (h : Bag t w0 W l) : Bag t w0 W.drew l := ⟨h.1.drew, h.2.1, fun z hz => ⟨(h.2.2 z hz).1, (h.2.2 z hz).2.drew⟩⟩
abbrev Held (R : World → Prop) (l : List Nat) (W : World) : Prop := Kept R (fun k => k ∈ l) W
theorem Held.more {R : World → Prop} {l : List Nat} {W : World} (h : Held R l W) (o : Obj) : Held R (W.heap.size :: l) (W.alloc o) := Kept.step h (S := fun _ => False) ((Fr.refl W).alloc o) (fun _ _ h => h.elim) (fun k hk => by
  rcases List.mem_cons.1 hk with rfl | hk
  · exact .inr (Nat.le_refl _)
  · exact .inl hk)
theorem Bag.held {t : TypeId} {w0 W : World} {l : List Nat} (h : Bag t w0 W l) {R : World → Prop} {w' : World} (hk : Kept R (fun k => k < W.heap.size) w') : Held R l w' := fun V f => hk V (f.mono (fun k _ hm => h.lt k hm))
def put3 (W : World) (z : Nat) (a b c : Value) : World := ((W.setCell ⟨z, 0, none⟩ a).setCell ⟨z, 1, none⟩ b).setCell ⟨z, 2, none⟩ c
def Done (t : TypeId) (w0 : World) (R : World → Prop) (a b c d e f : Value) (V : World) (p q : Nat) : Prop := Blk V p t #[a, b, c] ∧ Blk V q t #[d, e, f] ∧ R V ∧ Fr (fun _ => False) w0 V
end Go.Q

namespace Go.Q
open Go Go.RowKit
def toRow (r : RowI) : RowP := ⟨cutName (r.iss.take 4), ⟨r.num.below, r.num.size.take 100⟩, r.date, r.reason, if r.dated = true then some r.inv else none⟩
def toRows (l : List RowI) : List RowP := (l.take 8).map toRow
theorem toRows_len (l : List RowI) : (toRows l).length ≤ 8 := by
  unfold toRows
  rw [List.length_map, List.length_take]
  omega
theorem toRow_size (r : RowI) : (toRow r).num.size.length ≤ 1000000 := by
  show (r.num.size.take 100).length ≤ _
  rw [List.length_take]
  omega
theorem toRow_fit (r : RowI) : fitN (toRow r).iss := cutName_fit _
end Go.Q
namespace Go.Proofs.YtehlipgmkinfbaaGreatDoor
open Go Go.RowKit Go.Q
set_option linter.unusedSimpArgs false
set_option maxRecDepth 100000 in
set_option maxHeartbeats 8000000 in
theorem toRows_any (v : Value) (l : List RowI) (w : World) (h : RefsI w v l) :
    Calls Tryz.prog 8 #[v] w fun e w' => (∃ a c, e = .returned (.slice a (toRows l).length c) ∧ Go.Q.Rows w' (.slice a (toRows l).length c) (toRows l)) ∧ Fr (fun _ => False) w w' := by
  have H := Lib.hid h
  have HDF := Lib.hid (show toRows l = (l.take 8).map toRow from rfl)
  obtain ⟨a0, cap0, rfl, -⟩ := h
  go_enter Tryz.func8, Tryz.ntmps8
  go_wp2_with fail
  go_loopg [3, 4] l.length (fun g u i wr => ∃ (j : Nat) (a : Option Addr) (c : Nat) (gs : List RowP), g = l.length - j ∧ j ≤ l.length ∧ j ≤ 8 ∧ u = .slice a gs.length c ∧ i = .int .i64 j ∧ gs.length = j ∧ Hid (gs = (l.take j).map toRow) ∧ Hid (GRow 6 RRow (fun _ => False) 43 wr w.heap.size (.slice a gs.length c) gs) ∧ Hid (Fr (fun _ => False) w wr))
  case atStart => exact ⟨0, none, 0, [], rfl, Nat.zero_le _, by omega, rfl, rfl, rfl, Lib.hid rfl, Lib.hid (GRow.nil _ _ _ _ _ _), Lib.hid (Fr.refl _)⟩
  case round =>
    obtain ⟨j, a, c, gs, hg, hj, hj8, rfl, rfl, hgl, HGS, HRW, HF⟩ := hrel
    have HG := Lib.hid hg
    have HGL := Lib.hid hgl
    clear hg
    by_cases hjl : j < l.length
    · by_cases h8 : j < 8
      · obtain ⟨x, hx⟩ : ∃ x, l[j]? = some x := ⟨_, List.getElem?_eq_getElem hjl⟩
        obtain ⟨b, o, cs, rfl, -, hcs, hR, hcell⟩ := LAt.get H.out hx
        obtain ⟨p1, p2, p3, p4, rfl, hni, hsi⟩ := hR.form
        have HLOW := Lib.hid (show b < w.heap.size from World.block_lt_of_cell? w _ (hcell 0 _ rfl))
        have HS := Lib.hid (fun W (F : Fr (fun _ => False) wr W) => show W.cell? ⟨b, o + j * 7, none⟩ = some (.slice p1 x.iss.length p2) ∧ W.cell? ⟨b, o + j * 7 + 1, none⟩ = some (.bool x.num.below) ∧ W.cell? ⟨b, o + j * 7 + 1 + 1, none⟩ = some (.slice p3 x.num.size.length p4) ∧ W.cell? ⟨b, o + j * 7 + 3, none⟩ = some (.int .i64 x.date) ∧ W.cell? ⟨b, o + j * 7 + 4, none⟩ = some (.int .i64 x.reason) from ⟨by have := (HF.out.trans F).cell (hcell 0 _ rfl) (fun h => h); rwa [Nat.add_zero] at this, (HF.out.trans F).cell (hcell 1 _ rfl) (fun h => h), (HF.out.trans F).cell (hcell 2 _ rfl) (fun h => h), (HF.out.trans F).cell (hcell 3 _ rfl) (fun h => h), (HF.out.trans F).cell (hcell 4 _ rfl) (fun h => h)⟩)
        have HS2 := Lib.hid (fun W (F : Fr (fun _ => False) wr W) => show W.cell? ⟨b, o + j * 7 + 5, none⟩ = some (.bool x.dated) ∧ W.cell? ⟨b, o + j * 7 + 6, none⟩ = some (.int .i64 x.inv) from ⟨(HF.out.trans F).cell (hcell 5 _ rfl) (fun h => h), (HF.out.trans F).cell (hcell 6 _ rfl) (fun h => h)⟩)
        have r1 : (0 : Int) ≤ (j : Int) := by omega
        have r2 : (j : Int) < (l.length : Int) := by omega
        have r3 : (j : Int) < 8 := by omega
        obtain ⟨nn, hnn⟩ : ∃ nn, nn = cutName (x.iss.take 4) := ⟨_, rfl⟩
        obtain ⟨ss, hss⟩ : ∃ ss, ss = x.num.size.take 100 := ⟨_, rfl⟩
        have HSH := Lib.hid (fun W (F : Fr (fun _ => False) wr W) => short_any _ x.iss w W hni (HF.out.trans F))
        have HNM := Lib.hid (fun W (F : Fr (fun _ => False) wr W) => num_any x.num.below _ x.num.size w W hsi (HF.out.trans F))
        rw [← hnn] at HSH
        rw [← hss] at HNM
        have HRT := Lib.hid (fun (W : World) (vi vs vp : Value) (g1 : NameAt W vi nn) (g2 : Bytes W vs ss) (g3 : InvAt W vp (if x.dated = true then some x.inv else none)) => show RRow W [vi, .bool x.num.below, vs, .int .i64 x.date, .int .i64 x.reason, vp] (toRow x) from by
          subst hnn hss
          exact ⟨vi, vs, vp, rfl, g1, g2, g3⟩)
        have HTK := Lib.hid (show (l.take (j + 1)).map toRow = (l.take j).map toRow ++ [toRow x] by rw [List.take_add_one, hx, List.map_append]; rfl)
        clear hx hcell hR hni hsi hnn hss hcs h8 hgl
        go_upto_region 5 with fail
        have hwr := HF.out.size
        have HWR := Lib.hid hwr
        go_cut [5] from 17 to 40 (fun s5 wc => ∃ y a1 k1 b2 d2, s5 = pt y ∧ wr.heap.size ≤ y ∧ Blk wc y 43 #[.slice a1 nn.length k1, .bool x.num.below, .slice b2 ss.length d2, .int .i64 x.date, .int .i64 x.reason, .pointer none] ∧ Kept (fun W => NameAt W (.slice a1 nn.length k1) nn ∧ Bytes W (.slice b2 ss.length d2) ss) (fun k => (w.heap.size ≤ k ∧ k < wr.heap.size) ∨ k = y) wc ∧ Fr (fun _ => False) wr wc)
        case first =>
          have hsd : wr.drew.heap.size = wr.heap.size := rfl
          have hsa : (wr.alloc (.cells #[.slice none 0 0, .bool false, .slice none 0 0, .int .i64 0, .int .i64 0, .pointer none] 43)).drew.heap.size = wr.heap.size + 1 := World.size_alloc _ _
          have GD : Fr (fun _ => False) wr wr.drew := (Fr.refl wr).drew
          have GA : Fr (fun _ => False) wr (wr.alloc (.cells #[.slice none 0 0, .bool false, .slice none 0 0, .int .i64 0, .int .i64 0, .pointer none] 43)).drew := ((Fr.refl wr).alloc _).drew
          go_region_held3 (fun w' => w'.cell? ⟨b, o + j * 7, none⟩ = some (.slice p1 x.iss.length p2) ∧ w'.cell? ⟨b, o + j * 7 + 1, none⟩ = some (.bool x.num.below) ∧ w'.cell? ⟨b, o + j * 7 + 1 + 1, none⟩ = some (.slice p3 x.num.size.length p4) ∧ w'.cell? ⟨b, o + j * 7 + 3, none⟩ = some (.int .i64 x.date) ∧ w'.cell? ⟨b, o + j * 7 + 4, none⟩ = some (.int .i64 x.reason)) (first | (with_reducible exact HS.out _ GD) | (with_reducible exact HS.out _ GA) | (with_reducible exact HS.out _ G1) | (with_reducible exact HS.out _ GB) | (with_reducible exact HS.out _ G3) | (with_reducible exact HS.out _ G4) | (with_reducible exact HS.out _ GC) | fail) (first
            | (go_at_call 33; (with_reducible refine (HSH.out _ GD).mono ?_); rintro e w' ⟨⟨a1, k1, rfl, hr⟩, F⟩; have hw2 := F.size; have G1 := GD.trans F; have kn := hr.kept (fun k => w.heap.size ≤ k ∧ k < wr.heap.size) (fun k hk => ⟨⟨hk.1, by omega⟩, by omega⟩); have GB := G1.alloc (.cells #[.slice none 0 0, .bool false, .slice none 0 0, .int .i64 0, .int .i64 0, .pointer none] 43); clear hr F HSH)
            | (go_at_call 33; (with_reducible refine (HSH.out _ GA).mono ?_); rintro e w' ⟨⟨a1, k1, rfl, hr⟩, F⟩; have hw2 := F.size; have G1 := GA.trans F; have BN := (Blk.new wr 43 #[.slice none 0 0, .bool false, .slice none 0 0, .int .i64 0, .int .i64 0, .pointer none]).drew.fr F (fun h => h); have kn := hr.kept (fun k => (w.heap.size ≤ k ∧ k < wr.heap.size) ∨ k = wr.heap.size) (fun k hk => ⟨⟨by rcases hk with hk | hk <;> omega, by rcases hk with hk | hk <;> omega⟩, by rcases hk with hk | hk <;> omega⟩); clear hr F HSH)
            | (go_at_call 34; (with_reducible refine (HNM.out _ GB).mono ?_); rintro e w3 ⟨⟨b2, d2, rfl, hq⟩, F⟩; have hsb : (w'.alloc (.cells #[.slice none 0 0, .bool false, .slice none 0 0, .int .i64 0, .int .i64 0, .pointer none] 43)).heap.size = w'.heap.size + 1 := World.size_alloc _ _; have BN := (Blk.new w' 43 #[.slice none 0 0, .bool false, .slice none 0 0, .int .i64 0, .int .i64 0, .pointer none]).fr F (fun h => h); have G3 := GB.trans F; have kk : Kept (fun W => NameAt W (.slice a1 nn.length k1) nn ∧ Bytes W (.slice b2 ss.length d2) ss) (fun k => (w.heap.size ≤ k ∧ k < wr.heap.size) ∨ k = w'.heap.size) w3 := Kept.both (kn.step (((Fr.refl w').alloc (.cells #[.slice none 0 0, .bool false, .slice none 0 0, .int .i64 0, .int .i64 0, .pointer none] 43) : Fr (fun _ => False) w' _).trans F) (fun _ _ h => h.elim) (fun k hk => by rcases hk with hk | hk; exact .inl hk; exact .inr (by omega))) (hq.weaken (fun k hk => by rcases hk with hk | hk <;> omega)); have hle : wr.heap.size ≤ w'.heap.size := by omega
               have HE := one_put [.slice a1 nn.length k1, .bool x.num.below, .slice b2 ss.length d2, .int .i64 x.date, .int .i64 x.reason, .pointer none] BN rfl G3 (by omega) kk (.inr rfl); (simp only [putL] at HE); have G4 := HE.2.2; have d0 := BN.cell 0; have d1 := BN.cell 1; have d2' := BN.cell 2; have d3 := BN.cell 3; have d4 := BN.cell 4; have d5 := BN.cell 5; have f0 := BN.frozen 0; have f1 := BN.frozen 1; have f2 := BN.frozen 2; have f3 := BN.frozen 3; have f4 := BN.frozen 4; have f5 := BN.frozen 5; (simp only [List.getElem?_toArray, List.getElem?_cons_succ, List.getElem?_cons_zero] at d0 d1 d2' d3 d4 d5); clear F hq kk BN kn HNM)
            | (go_at_call 34; (with_reducible refine (HNM.out _ G1).mono ?_); rintro e w3 ⟨⟨b2, d2, rfl, hq⟩, F⟩; replace BN := BN.fr F (fun h => h); have G3 := G1.trans F; have kk : Kept (fun W => NameAt W (.slice a1 nn.length k1) nn ∧ Bytes W (.slice b2 ss.length d2) ss) (fun k => (w.heap.size ≤ k ∧ k < wr.heap.size) ∨ k = wr.heap.size) w3 := Kept.both (kn.old F) (hq.weaken (fun k hk => by rcases hk with hk | hk <;> omega)); have hle : wr.heap.size ≤ wr.heap.size := Nat.le_refl _
               have HE := one_put [.slice a1 nn.length k1, .bool x.num.below, .slice b2 ss.length d2, .int .i64 x.date, .int .i64 x.reason, .pointer none] BN rfl G3 (by omega) kk (.inr rfl); (simp only [putL] at HE); have G4 := HE.2.2; have d0 := BN.cell 0; have d1 := BN.cell 1; have d2' := BN.cell 2; have d3 := BN.cell 3; have d4 := BN.cell 4; have d5 := BN.cell 5; have f0 := BN.frozen 0; have f1 := BN.frozen 1; have f2 := BN.frozen 2; have f3 := BN.frozen 3; have f4 := BN.frozen 4; have f5 := BN.frozen 5; (simp only [List.getElem?_toArray, List.getElem?_cons_succ, List.getElem?_cons_zero] at d0 d1 d2' d3 d4 d5); clear F hq kk BN kn HNM)
            | (go_at_call 34; (with_reducible refine (HNM.out _ G1).mono ?_); rintro e w3 ⟨⟨b2, d2, rfl, hq⟩, F⟩; have hw3 := F.size; have G3 := G1.trans F; have kk : Kept (fun W => NameAt W (.slice a1 nn.length k1) nn ∧ Bytes W (.slice b2 ss.length d2) ss) (fun k => w.heap.size ≤ k ∧ k < wr.heap.size) w3 := Kept.both (kn.old F) (hq.weaken (fun k hk => by omega)); have hle : wr.heap.size ≤ w3.heap.size := by omega
               have HE := one_new 43 [.slice a1 nn.length k1, .bool x.num.below, .slice b2 ss.length d2, .int .i64 x.date, .int .i64 x.reason, .pointer none] G3 kk (K' := (fun k => (w.heap.size ≤ k ∧ k < wr.heap.size) ∨ k = w3.heap.size)) (fun k hk => by rcases hk with hk | hk; exact .inl hk; exact .inr (by omega)); have G4 := HE.2.2; have GC := G3.alloc (.cells #[.slice none 0 0, .bool false, .slice none 0 0, .int .i64 0, .int .i64 0, .pointer none] 43); clear F hq kk kn HNM GB)
            | fail)
          all_goals
            try clear d0 d1 d2' d3 d4 d5 f0 f1 f2 f3 f4 f5
            have h1 := Lib.hid HE
            clear HE G4
            go_wp2_with fail
            go_meet
            refine ⟨_, a1, k1, b2, d2, rfl, ?_, ?_⟩
            · exact hle
            · with_reducible exact h1.out
        case rest =>
          obtain ⟨y, a1, k1, b2, d2, rfl, hy, B5, hk, F5⟩ := hcut
          obtain ⟨e5, e6⟩ := HS2.out wc F5
          have HY := Lib.hid hy
          have HB5 := Lib.hid B5
          have HK := Lib.hid hk
          have HF5 := Lib.hid F5
          clear hy B5 hk F5 HS HS2 HSH HNM
          cases hd : x.dated with
          | false =>
            rw [hd] at e5
            have hkr := HK.out.imp (fun W g => HRT.out W _ _ (.pointer none) g.1 g.2 (by rw [hd]; rfl))
            have m0 := HB5.out.cell 0
            have m1 := HB5.out.cell 1
            have m2 := HB5.out.cell 2
            have m3 := HB5.out.cell 3
            have m4 := HB5.out.cell 4
            have m5 := HB5.out.cell 5
            simp only [List.getElem?_toArray, List.getElem?_cons_succ, List.getElem?_cons_zero] at m0 m1 m2 m3 m4 m5
            obtain ⟨a7, c7, w7, hrun, hrow7, F7, -⟩ := (HRW.out.old HF5.out).add (s := 23) Tryz.underlying23 info43 rfl (by decide) (by decide) (by have := HWR.out; have := (HF5.out).size; omega) ((Fr.refl wc).alloc (.cells [.slice a1 nn.length k1, .bool x.num.below, .slice b2 ss.length d2, .int .i64 x.date, .int .i64 x.reason, .pointer none].toArray 43)) wc.heap.size [.slice a1 nn.length k1, .bool x.num.below, .slice b2 ss.length d2, .int .i64 x.date, .int .i64 x.reason, .pointer none] rfl (Blk.new wc 43 [.slice a1 nn.length k1, .bool x.num.below, .slice b2 ss.length d2, .int .i64 x.date, .int .i64 x.reason, .pointer none].toArray) (by simp [Value.oneCell']) (toRow x) (hkr.weaken (fun k hk => by
                rcases hk with hk | hk
                · exact .inl (HRW.out.keep k hk)
                · exact hk.elim)) (by have := HGL.out; omega)
            have HRUN := Lib.hid hrun
            have HRW7 := Lib.hid hrow7
            have HKP := Lib.hid HRW.out.keep
            have HF7 := Lib.hid ((HF.out.trans (HF5.out)).trans' F7 (fun i hi e => absurd hi (by have := (HKP.out i e).1; omega)))
            have HGS7 := Lib.hid (show gs ++ [toRow x] = (l.take (j + 1)).map toRow by rw [HTK.out, HGS.out])
            clear hkr hrun hrow7 F7 hd HRT HK
            go_wp2_with (at_builtin; refine wpList_append_run (by rfl) (.tmp 51) (.tmp 53) 23 (by rfl) _ w7 (by exact HRUN.out) ?_)
            go_roundg (l.length - (j + 1))
            case measure => rw [HG.out]; omega
            case rel => exact ⟨j + 1, a7, c7, gs ++ [toRow x], rfl, by omega, by omega, by rw [List.length_append]; rfl, by go_num, by rw [List.length_append, HGL.out]; rfl, HGS7, Lib.hid (by rw [List.length_append]; exact HRW7.out), HF7⟩
          | true =>
            rw [hd] at e5
            go_upto_region 8 with fail
            obtain ⟨q, hq⟩ : ∃ q, q = wc.heap.size := ⟨_, rfl⟩
            have N6 := Blk.new wc 3 #[.int .i64 x.inv]
            have M5 := HB5.out.alloc (.cells #[.int .i64 x.inv] 3)
            have hyl := HB5.out.lt
            have hyw := HY.out
            have m5 := M5.cell 5
            have f5 := M5.frozen 5
            simp only [List.getElem?_toArray, List.getElem?_cons_succ, List.getElem?_cons_zero] at m5
            have FE := Fr.setCell (S := fun k => k = y) (p := ⟨y, 5, none⟩) ((Fr.refl wc).alloc (.cells #[.int .i64 x.inv] 3)) (fun _ => rfl) (.pointer (some ⟨q, 0, none⟩))
            rw [← hq] at N6
            have N6s := N6.set_other (a := ⟨y, 5, none⟩) (by show q ≠ y; omega) (.pointer (some ⟨q, 0, none⟩))
            have M5s : Blk ((wc.alloc (.cells #[.int .i64 x.inv] 3)).setCell ⟨y, 5, none⟩ (.pointer (some ⟨q, 0, none⟩))) y 43 #[.slice a1 nn.length k1, .bool x.num.below, .slice b2 ss.length d2, .int .i64 x.date, .int .i64 x.reason, .pointer (some ⟨q, 0, none⟩)] := M5.set 5 (.pointer (some ⟨q, 0, none⟩))
            have hke : Kept (fun W => RRow W [.slice a1 nn.length k1, .bool x.num.below, .slice b2 ss.length d2, .int .i64 x.date, .int .i64 x.reason, .pointer (some ⟨q, 0, none⟩)] (toRow x)) (fun k => (w.heap.size ≤ k ∧ k < wr.heap.size) ∨ k = y) ((wc.alloc (.cells #[.int .i64 x.inv] 3)).setCell ⟨y, 5, none⟩ (.pointer (some ⟨q, 0, none⟩))) := by
              have g1 := HK.out.step FE (K' := (fun k => (w.heap.size ≤ k ∧ k < wr.heap.size) ∨ k = y)) (fun k _ e => .inr e) (fun k hk => .inl hk)
              have g2 : Kept (fun W => W.cell? ⟨q, 0, none⟩ = some (.int .i64 x.inv)) (fun k => (w.heap.size ≤ k ∧ k < wr.heap.size) ∨ k = y) ((wc.alloc (.cells #[.int .i64 x.inv] 3)).setCell ⟨y, 5, none⟩ (.pointer (some ⟨q, 0, none⟩))) := fun V f => f.cell (N6s.cell 0) (fun h => by rcases h with h | h <;> (simp only at h; omega))
              exact (Kept.both g1 g2).imp (fun W g => HRT.out W _ _ (.pointer (some ⟨q, 0, none⟩)) g.1.1 g.1.2 (by rw [hd]; exact ⟨_, _, rfl, g.2⟩))
            have hfe : Fr (fun _ => False) wr ((wc.alloc (.cells #[.int .i64 x.inv] 3)).setCell ⟨y, 5, none⟩ (.pointer (some ⟨q, 0, none⟩))) := HF5.out.trans' FE (fun i hi e => by have e2 : i = y := e; omega)
            have HKE := Lib.hid hke
            have HFE := Lib.hid hfe
            have HM := Lib.hid M5s
            have HQ := Lib.hid hq
            clear hke hfe FE N6 N6s M5 M5s hq hyl hyw hd HRT HK
            go_upto_region 9 with fail
            clear m5 f5 e5 e6
            rw [← HQ.out]
            generalize ((wc.alloc (.cells #[.int .i64 x.inv] 3)).setCell ⟨y, 5, none⟩ (.pointer (some ⟨q, 0, none⟩))) = we at *
            have m0 := HM.out.cell 0
            have m1 := HM.out.cell 1
            have m2 := HM.out.cell 2
            have m3 := HM.out.cell 3
            have m4 := HM.out.cell 4
            have m5 := HM.out.cell 5
            simp only [List.getElem?_toArray, List.getElem?_cons_succ, List.getElem?_cons_zero] at m0 m1 m2 m3 m4 m5
            obtain ⟨a7, c7, w7, hrun, hrow7, F7, -⟩ := (HRW.out.old HFE.out).add (s := 23) Tryz.underlying23 info43 rfl (by decide) (by decide) (by have := HWR.out; have := (HFE.out).size; omega) ((Fr.refl we).alloc (.cells [.slice a1 nn.length k1, .bool x.num.below, .slice b2 ss.length d2, .int .i64 x.date, .int .i64 x.reason, .pointer (some ⟨q, 0, none⟩)].toArray 43)) we.heap.size [.slice a1 nn.length k1, .bool x.num.below, .slice b2 ss.length d2, .int .i64 x.date, .int .i64 x.reason, .pointer (some ⟨q, 0, none⟩)] rfl (Blk.new we 43 [.slice a1 nn.length k1, .bool x.num.below, .slice b2 ss.length d2, .int .i64 x.date, .int .i64 x.reason, .pointer (some ⟨q, 0, none⟩)].toArray) (by simp [Value.oneCell']) (toRow x) (HKE.out.weaken (fun k hk => by
                rcases hk with hk | hk
                · exact .inl (HRW.out.keep k hk)
                · exact hk.elim)) (by have := HGL.out; omega)
            have HRUN := Lib.hid hrun
            have HRW7 := Lib.hid hrow7
            have HKP := Lib.hid HRW.out.keep
            have HF7 := Lib.hid ((HF.out.trans (HFE.out)).trans' F7 (fun i hi e => absurd hi (by have := (HKP.out i e).1; omega)))
            have HGS7 := Lib.hid (show gs ++ [toRow x] = (l.take (j + 1)).map toRow by rw [HTK.out, HGS.out])
            clear hrun hrow7 F7
            go_wp2_with (at_builtin; refine wpList_append_run (by rfl) (.tmp 51) (.tmp 53) 23 (by rfl) _ w7 (by exact HRUN.out) ?_)
            go_roundg (l.length - (j + 1))
            case measure => rw [HG.out]; omega
            case rel => exact ⟨j + 1, a7, c7, gs ++ [toRow x], rfl, by omega, by omega, by rw [List.length_append]; rfl, by go_num, by rw [List.length_append, HGL.out]; rfl, HGS7, Lib.hid (by rw [List.length_append]; exact HRW7.out), HF7⟩
      · obtain rfl : j = 8 := by omega
        have q2 : ¬ ((8 : Nat) : Int) < 8 := by omega
        have q1 : ((8 : Nat) : Int) < (l.length : Int) := by omega
        have HE := Lib.hid (show gs = toRows l by rw [HGS.out, HDF.out])
        clear hgl hj8 h8
        go_wp2_with fail
        go_ret
        rw [← HE.out]
        exact ⟨⟨a, c, rfl, HRW.out.at (by decide)⟩, HF.out⟩
    · have HE := Lib.hid (show gs = toRows l by rw [HGS.out, HDF.out, List.take_of_length_le (by omega), List.take_of_length_le (by omega)])
      clear hgl
      go_wp2_with fail
      go_ret
      rw [← HE.out]
      exact ⟨⟨a, c, rfl, HRW.out.at (by decide)⟩, HF.out⟩
end Go.Proofs.YtehlipgmkinfbaaGreatDoor

namespace Go.Q
open Go Go.RowKit
section
variable {P : Program}
theorem append_zero {w : World} {t ty e : TypeId} {i : TypeInfo} (ht : P.underlying t = some (.slice e)) (hi : P.info? e = some i) (base : Option Addr) (n cap : Nat) (hle : n ≤ cap) (sp : Option Addr) (c : Nat) :
    (Builtin.append_ #[t, t] ty #[.slice base n cap, .slice sp 0 c]).run P w = .ok (.slice base n cap) w := by
  cases base <;> cases sp <;> simp [Builtin.append_, run_underlying ht, sizeOf, typeInfo, hi, Builtin.lenOf, Builtin.firstCells, hle, storeCells, loadCells, loadCellsFrom]
end
section
variable {α : Type} {sz : Nat} {R : World → List Value → α → Prop} {K : Nat → Prop} {t : TypeId} {w : World} {base : Nat} {v : Value} {l : List α}
theorem LAt.rest {a : Option Addr} {n c : Nat} (h : LAt sz R w (.slice a n c) l) (i : Nat) (hi : i ≤ l.length) (A : Option Addr) (hA : i < l.length → ∀ b o, a = some ⟨b, o, none⟩ → A = some ⟨b, o + i * sz, none⟩) : LAt sz R w (.slice A (l.drop i).length (c - i)) (l.drop i) := by
  obtain ⟨_, _, he, h1, h2, h3⟩ := h
  simp only [Value.slice.injEq] at he
  obtain ⟨rfl, -, rfl⟩ := he
  have hl : (l.drop i).length = l.length - i := List.length_drop
  refine ⟨A, c - i, rfl, by omega, by omega, fun h0 => ?_⟩
  obtain ⟨b, o, rfl, hy⟩ := h3 (by omega)
  refine ⟨b, o + i * sz, hA (by omega) b o rfl, fun j x hx => ?_⟩
  rw [List.getElem?_drop] at hx
  obtain ⟨cs, e1, e2, e3⟩ := hy (i + j) x hx
  refine ⟨cs, e1, fun m u hu => ?_, e3⟩
  have := e2 m u hu
  rwa [show o + sz * (i + j) + m = o + i * sz + sz * j + m by rw [Nat.mul_add, Nat.mul_comm sz i]; omega] at this
theorem LAt.upto {a : Option Addr} {n c : Nat} (h : LAt sz R w (.slice a n c) l) (i : Nat) (hi : i ≤ l.length) (A : Option Addr) (hA : 0 < i → ∀ b o, a = some ⟨b, o, none⟩ → A = some ⟨b, o, none⟩) : LAt sz R w (.slice A (l.take i).length c) (l.take i) := by
  obtain ⟨_, _, he, h1, h2, h3⟩ := h
  simp only [Value.slice.injEq] at he
  obtain ⟨rfl, -, rfl⟩ := he
  have hl : (l.take i).length = i := by rw [List.length_take]; omega
  refine ⟨A, c, rfl, by omega, by omega, fun h0 => ?_⟩
  obtain ⟨b, o, rfl, hy⟩ := h3 (by omega)
  refine ⟨b, o, hA (by omega) b o rfl, fun j x hx => ?_⟩
  rw [List.getElem?_take] at hx
  split at hx
  · exact hy j x hx
  · cases hx
theorem GRow.addSlice0 {P : Program} {s : TypeId} {z : Value} {bytes : Nat} (hu0 : P.underlying s = some (.slice t)) (hinf : Info P t z sz bytes) (hzs : z.cells.size = sz) (hs0 : 0 < sz) (hby : bytes ≤ 128) (h : GRow sz R K t w base v l) (hb : base ≤ w.heap.size) {ay : Option Addr} {cy : Nat} {r : List α} (hy : LAt sz R w (.slice ay r.length cy) r) (h1 : ∀ W cs x, R W cs x → ∀ u ∈ cs, u.oneCell' = true) (hk : ∀ us x, R w us x → Kept (fun W => R W us x) (fun k => v.ownBlock = some k ∨ K k) w) (hn : l.length + r.length ≤ 109951162777) :
    ∃ a c w', (Builtin.append_ #[s, s] s #[v, .slice ay r.length cy]).run P w = .ok (.slice a (l.length + r.length) c) w' ∧ GRow sz R K t w' base (.slice a (l.length + r.length) c) (l ++ r) ∧ Fr (fun k => v.ownBlock = some k) w w' := by
  rcases Nat.eq_zero_or_pos r.length with h0 | h0
  · obtain rfl : r = [] := List.length_eq_zero_iff.1 h0
    obtain ⟨i0, hi0, -⟩ := info_parts hinf
    have hg := h
    obtain ⟨cs, ⟨g1, g2⟩, g3⟩ := h
    rcases g2 with ⟨rfl, hz⟩ | ⟨g, cap, cur, rfl, hgb, hh, hnc, hcm, hcs, htk⟩
    · have hl : l = [] := List.length_eq_zero_iff.1 hz
      subst hl
      exact ⟨none, 0, w, append_zero hu0 hi0 none 0 0 (Nat.le_refl _) ay cy, by simpa using hg, Fr.refl _⟩
    · refine ⟨some ⟨g, 0, none⟩, cap, w, ?_, by simpa using hg, Fr.refl _⟩
      rw [List.length_nil, Nat.add_zero]
      exact append_zero hu0 hi0 _ _ cap hnc ay cy
  · obtain ⟨a, c, w', q1, q2, q3, -⟩ := h.addSlice hu0 hinf hzs hs0 hby hb hy h0 h1 hk hn
    exact ⟨a, c, w', q1, q2, q3⟩
end
end Go.Q
namespace Go.Proofs.YtehlipgmkinfbaaGreatDoor
open Go Go.RowKit Go.Q
set_option linter.unusedSimpArgs false
theorem rowsSlice_rest (a : Option Addr) (m cap : Nat) (hm : m ≤ cap) (i : Nat) (hi : i ≤ m) :
    ∃ A, (∀ w, (Instr.slice 23 (.slice a m cap) (some (.int .i64 (i : Int))) none none).run Tryz.prog w = .ok (.slice A (m - i) (cap - i)) w) ∧ (i < m → ∀ b o, a = some ⟨b, o, none⟩ → A = some ⟨b, o + i * 6, none⟩) := by
  obtain ⟨i0, hi0, -, hz1, -⟩ := info_parts info43
  have h1 : (0 : Int) ≤ (i : Int) := by omega
  have h2 : (i : Int) ≤ (m : Int) := by omega
  have h3 : (m : Int) ≤ (cap : Int) := by omega
  by_cases hc : cap - i = 0
  · refine ⟨a, fun w => ?_, fun h => by omega⟩
    simp [go_sem, h1, h2, h3, hc, Tryz.underlying23, sizeOf, typeInfo, hi0, hz1]
    try (intro h; omega)
  · refine ⟨a.map fun x => x.add (i * 6), fun w => ?_, fun h b o e => by rw [e]; unfold Addr.add; simp⟩
    simp [go_sem, h1, h2, h3, hc, Tryz.underlying23, sizeOf, typeInfo, hi0, hz1]
    try (intro h; omega)
theorem rowsSlice_upto (a : Option Addr) (m cap : Nat) (hm : m ≤ cap) (i : Nat) (hi : i ≤ m) :
    ∃ A, (∀ w, (Instr.slice 23 (.slice a m cap) none (some (.int .i64 (i : Int))) none).run Tryz.prog w = .ok (.slice A i cap) w) ∧ (0 < i → ∀ b o, a = some ⟨b, o, none⟩ → A = some ⟨b, o, none⟩) := by
  obtain ⟨i0, hi0, -, hz1, -⟩ := info_parts info43
  have h1 : (0 : Int) ≤ (i : Int) := by omega
  have h2 : (i : Int) ≤ (m : Int) := by omega
  have h3 : (m : Int) ≤ (cap : Int) := by omega
  have h4 : (i : Int) ≤ (cap : Int) := by omega
  by_cases hc : cap = 0
  · refine ⟨a, fun w => ?_, fun h => by omega⟩
    simp [go_sem, h1, h2, h3, h4, hc, Tryz.underlying23, sizeOf, typeInfo, hi0, hz1]
    try omega
  · refine ⟨a.map fun x => x.add 0, fun w => ?_, fun h b o e => by rw [e]; unfold Addr.add; simp⟩
    simp [go_sem, h1, h2, h3, h4, hc, Tryz.underlying23, sizeOf, typeInfo, hi0, hz1]
    try omega
end Go.Proofs.YtehlipgmkinfbaaGreatDoor

namespace Go.Q
open Go Go.RowKit
theorem LAt.move {α : Type} {sz : Nat} {R R' : World → List Value → α → Prop} {w w' : World} {v : Value} {l : List α} (h : LAt sz R w v l) (f : Fr (fun _ => False) w w') (hR : ∀ cs x, R w cs x → R' w' cs x) : LAt sz R' w' v l := by
  obtain ⟨a, c, rfl, h1, h2, h3⟩ := h
  refine ⟨a, c, rfl, h1, h2, fun h0 => ?_⟩
  obtain ⟨b, o, rfl, hy⟩ := h3 h0
  refine ⟨b, o, rfl, fun i x hx => ?_⟩
  obtain ⟨cs, e1, e2, e3⟩ := hy i x hx
  exact ⟨cs, e1, fun j u hu => f.cell (e2 j u hu) (fun h => h), hR cs x e3⟩
theorem newIx_err {l : List RowP} {x : Int} (h : newIx l = .error x) : x = 1 ∨ x = 10 := by
  unfold newIx at h
  split at h
  · split at h
    · exact .inr (by cases h; rfl)
    · cases h
  · exact .inl (by cases h; rfl)
theorem newIx_mem {l o : List RowP} (h : newIx l = .ok o) : ∀ r ∈ o, ∃ x ∈ l, r = nrow x := by
  unfold newIx at h
  split at h
  · split at h
    · cases h
    · rename_i s hs
      have hm := (new_some ordK (List.Pairwise.nil) hs).2
      simp only [Except.ok.injEq] at h
      subst h
      intro r hr
      obtain ⟨x, hx, rfl⟩ := List.mem_map.1 hr
      rcases (hm x).1 hx with q | q
      · cases q
      · exact ⟨x, q, rfl⟩
  · cases h
theorem same_nil : sameS [] [] = true := by
  unfold sameS sideR
  rw [sideS]
  rfl
theorem umod {k : Int} {n : Nat} (hn : n ≤ 100) : ∃ K : Nat, (IntKind.u64.wrap k).tmod ((n : Int) + 1) = (K : Int) ∧ K ≤ n := by
  have h0 : 0 ≤ IntKind.u64.wrap k := by simp [IntKind.wrap, IntKind.signed, IntKind.bits]; omega
  have h1 := Int.emod_nonneg (IntKind.u64.wrap k) (show (n : Int) + 1 ≠ 0 by omega)
  have h2 := Int.emod_lt_of_pos (IntKind.u64.wrap k) (show (0 : Int) < (n : Int) + 1 by omega)
  refine ⟨((IntKind.u64.wrap k) % ((n : Int) + 1)).toNat, ?_, by omega⟩
  rw [Int.tmod_eq_emod_of_nonneg h0]
  omega
end Go.Q
namespace Go.Proofs.YtehlipgmkinfbaaGreatDoor
open Go Go.RowKit Go.Q
set_option linter.unusedSimpArgs false
set_option maxRecDepth 100000 in
set_option maxHeartbeats 8000000 in
theorem orWalk_any (v : Value) (l : List RowI) (k : Int) (w : World) (h : RefsI w v l) (hE : Env w) :
    Calls Tryz.prog 7 #[v, .int .i64 k] w fun e w' => e = .returned (.bool true) ∧ Fr (fun _ => False) w w' := by
  obtain ⟨L, hL⟩ : ∃ L, L = toRows l := ⟨_, rfl⟩
  have HTR := Lib.hid (toRows_any v l w h)
  rw [← hL] at HTR
  have hlen : L.length ≤ 8 := by rw [hL]; exact toRows_len l
  have HFW := Lib.hid (show ∀ r ∈ L, fitW r from fun r hr => by
    rw [hL] at hr
    obtain ⟨x, -, rfl⟩ := List.mem_map.1 hr
    exact ⟨toRow_fit x, toRow_size x⟩)
  have HE := Lib.hid hE
  obtain ⟨K, hK1, hK2⟩ := umod (k := k) (n := L.length) (by omega)
  obtain ⟨a0, c0, rfl, -⟩ := h
  have hw1 : IntKind.u64.wrap ((L.length : Int) + 1) = (L.length : Int) + 1 := by simp [IntKind.wrap, IntKind.signed, IntKind.bits]; omega
  have hw2 : wrap64 (K : Int) = (K : Int) := by unfold wrap64; omega
  have hw3 : IntKind.i64.wrap (K : Int) = (K : Int) := by simp [IntKind.wrap, IntKind.signed, IntKind.bits]; omega
  have hw4 : wrap64 ((L.length : Int) + 1) = (L.length : Int) + 1 := by unfold wrap64; omega
  have hw5 : IntKind.i64.wrap ((L.length : Int) + 1) = (L.length : Int) + 1 := by simp [IntKind.wrap, IntKind.signed, IntKind.bits]; omega
  have hw6 : ((L.length : Int) + 1 == 0) = false := beq_eq_false_iff_ne.2 (by omega)
  have hw7 : ¬ (L.length : Int) + 1 = 0 := by omega
  have HLN := Lib.hid hlen
  have HK2 := Lib.hid hK2
  clear hE hL hlen hK2
  go_enter Tryz.func7, Tryz.ntmps7
  go_wp2_with fail
  refine HTR.out.mono ?_
  rintro e w1 ⟨⟨am, cm, rfl, hm⟩, F1⟩
  have hmc : L.length ≤ cm ∧ cm ≤ maxLen := by
    obtain ⟨_, _, he, q1, q2, -⟩ := hm
    simp only [Value.slice.injEq] at he
    obtain ⟨-, -, rfl⟩ := he
    exact ⟨q1, q2⟩
  have HM := Lib.hid hm
  have HF1 := Lib.hid F1
  obtain ⟨A1, hs1, hA1⟩ := rowsSlice_rest am L.length cm hmc.1 K HK2.out
  obtain ⟨A2, hs2, hA2⟩ := rowsSlice_upto am L.length cm hmc.1 K HK2.out
  have hd : (L.drop K).length = L.length - K := List.length_drop
  have ht : (L.take K).length = K := by rw [List.length_take]; have := HK2.out; omega
  have hr1 := hm.rest K HK2.out A1 hA1
  have hr2 := hm.upto K HK2.out A2 hA2
  have FA : Fr (fun _ => False) w1 (w1.alloc (.cells #[] 43)).drew := ((Fr.refl w1).alloc _).drew
  have hsz : (w1.alloc (.cells #[] 43)).drew.heap.size = w1.heap.size + 1 := World.size_alloc _ _
  have BG : Blk (w1.alloc (.cells #[] 43)).drew w1.heap.size 43 #[] := (Blk.new w1 43 #[]).drew
  have G0 : GRow 6 (fun _ us x => RRow w1 us x) (fun _ => False) 43 (w1.alloc (.cells #[] 43)).drew w1.heap.size (.slice (some ⟨w1.heap.size, 0, none⟩) 0 0) ([] : List RowP) :=
    ⟨[], ⟨rfl, .inr ⟨w1.heap.size, 0, #[], rfl, Nat.le_refl _, BG, Nat.le_refl _, by unfold maxLen; omega, rfl, rfl⟩⟩, fun i x hx => by simp at hx⟩
  obtain ⟨a3, c3, w3, run1, row1, F3⟩ := G0.addSlice0 (s := 23) Tryz.underlying23 info43 rfl (by decide) (by decide) (by omega) (hr1.move FA (fun _ _ h => h)) (fun _ _ _ h => RRow.one h) (fun us x hx => fun _ _ => hx) (by have := HLN.out; simp; omega)
  have FB : Fr (fun _ => False) w1 w3 := FA.trans' F3 (fun i hi e => by simp only [Value.ownBlock, Option.some.injEq] at e; omega)
  obtain ⟨a5, c5, w5, run2, row2, F5⟩ := row1.addSlice0 (s := 23) Tryz.underlying23 info43 rfl (by decide) (by decide) FB.size (hr2.move FB (fun _ _ h => h)) (fun _ _ _ h => RRow.one h) (fun us x hx => fun _ _ => hx) (by have := HLN.out; simp; omega)
  have hk1 := row1.keep
  have FC : Fr (fun _ => False) w1 w5 := FB.trans' F5 (fun i hi e => by have := (hk1 i e).1; omega)
  have hT := (row2.at (by decide)).move (R' := RRow) (Fr.refl w5) (fun cs x hx => RRow.old _ _ _ _ hx FC)
  simp only [List.nil_append, List.length_nil, Nat.zero_add] at run1 run2 hT
  rw [hd] at run1 run2
  rw [ht] at run2
  have HT := Lib.hid hT
  have HR1 := Lib.hid run1
  have HR2 := Lib.hid run2
  have HFC := Lib.hid FC
  have hdl : (L.drop K).length + (L.take K).length = L.length - K + K := by rw [hd, ht]
  rw [hdl] at HT
  have HPM := Lib.hid (newIx_perm (turned_perm L K))
  have hc1 : (0 : Int) ≤ (K : Int) := by omega
  have hc2 : (K : Int) ≤ (L.length : Int) := by have := HK2.out; omega
  clear hm F1 hmc hA1 hA2 hd ht hr1 hr2 FA hsz BG G0 run1 row1 F3 FB run2 row2 F5 hk1 FC hT hdl HTR
  go_upto_region 3 with fail
  go_region_law (first
    | (refine step_append_run (by rfl) (.tmp 27) (.tmp 30) 23 (by rfl) _ w3 (by exact HR1.out) ?_)
    | (refine step_append_run (by rfl) (.tmp 31) (.tmp 34) 23 (by rfl) _ w5 (by exact HR2.out) ?_)
    | fail)
  all_goals
    have HF5 := Lib.hid (HF1.out.trans HFC.out)
    have HN1 := Lib.hid (ixNew_any _ L w5 (Go.Q.Rows.old HM.out HFC.out) HFW.out (by have := HLN.out; omega) (HE.out.old HF5.out))
    clear hs1 hs2
    go_wp2_with fail
    refine HN1.out.mono ?_
    rintro e w6 ⟨ho1, F6⟩
    have HLL : Hid ((L.drop K ++ L.take K).length = L.length - K + K) := Lib.hid (by rw [List.length_append, List.length_drop, List.length_take]; have := HK2.out; omega)
    have hT6 : Go.Q.Rows w6 (.slice a5 (L.length - K + K) c5) (L.drop K ++ L.take K) := Go.Q.Rows.old HT.out F6
    have HN2 := Lib.hid (ixNew_any _ (L.drop K ++ L.take K) w6 hT6 (fun r hr => HFW.out r ((turned_perm L K).mem_iff.2 hr)) (by rw [← (turned_perm L K).length_eq]; have := HLN.out; omega) (HE.out.old (HF5.out.trans F6)))
    have HF6 := Lib.hid (HF5.out.trans F6)
    clear hT6 F6
    unfold NewOut at ho1
    cases hnew : newIx L with
    | ok o =>
      rw [hnew] at ho1
      obtain ⟨b1, rfl, hi1⟩ := ho1
      have HI16 := Lib.hid hi1
      have hup := newIx_up hnew
      have HSS := Lib.hid (same_self hup.1)
      have HSZ := Lib.hid (show ∀ r ∈ o, r.num.size.length ≤ 1000000 from fun r hr => by
        obtain ⟨x, hx, rfl⟩ := newIx_mem hnew r hr
        have := trimS_le x.num.size
        have := (HFW.out x hx).2
        show (trimS x.num.size).length ≤ _
        omega)
      have HNW := Lib.hid (show newIx (L.drop K ++ L.take K) = .ok o from by rw [← HPM.out]; exact hnew)
      clear hi1 hup hnew
      go_wp2_with fail
      refine HN2.out.mono ?_
      rintro e w7 ⟨ho2, F7⟩
      unfold NewOut at ho2
      rw [HNW.out] at ho2
      obtain ⟨b2, rfl, hi2⟩ := ho2
      have HI2 := Lib.hid hi2
      have HI1 := Lib.hid (HI16.out.old F7)
      have HG7 := Lib.hid (HF6.out.trans F7)
      clear hi2 F7 HN1 HN2
      go_wp2_with fail
      refine (find0_any _ (HE.out.old (HG7.out))).mono ?_
      rintro e w8 ⟨rfl, F8⟩
      have HG8 := Lib.hid ((HG7.out.trans F8).alloc (.cells #[.slice none 0 0, .bool false, .slice none 0 0, .int .i64 0, .int .i64 0, .pointer none] 43))
      have HX8 := Lib.hid (F8.alloc (.cells #[.slice none 0 0, .bool false, .slice none 0 0, .int .i64 0, .int .i64 0, .pointer none] 43))
      clear F8
      go_wp2_with fail
      refine (at0_any _).mono ?_
      rintro e w9 ⟨rfl, F9⟩
      have HG9 := Lib.hid ((HG8.out.trans F9).alloc (.cells #[.slice none 0 0, .bool false, .slice none 0 0, .int .i64 0, .int .i64 0, .pointer none] 43))
      have HX9 := Lib.hid (HX8.out.trans (F9.alloc (.cells #[.slice none 0 0, .bool false, .slice none 0 0, .int .i64 0, .int .i64 0, .pointer none] 43)))
      clear F9
      go_wp2_with fail
      refine (ixKnown_any _ (HE.out.old HG9.out)).mono ?_
      rintro e w10 ⟨rfl, F10⟩
      have HG10 := Lib.hid (HG9.out.trans F10)
      have HX10 := Lib.hid (HX9.out.trans F10)
      clear F10 HX8 HX9 HG8 HG9
      go_wp2_with fail
      refine (ixSame_any _ _ o o w10 (HI1.out.old (HX10.out)) (HI2.out.old (HX10.out)) HSZ.out HSZ.out).mono ?_
      rintro e w11 ⟨rfl, F11⟩
      rw [HSS.out]
      have HG11 := Lib.hid (HG10.out.trans F11)
      clear F11
      go_wp2_with fail
      refine (ixLen_any (.pointer none) [] w11 (.inl ⟨rfl, rfl⟩)).mono ?_
      rintro e w12 ⟨rfl, F12⟩
      simp only [List.length_nil]
      have HG12 := Lib.hid (HG11.out.trans F12)
      clear F12
      go_wp2_with fail
      refine (ixAll_any (.pointer none) [] w12 (.inl ⟨rfl, rfl⟩) (fun r hr => by cases hr) (by decide)).mono ?_
      rintro e w13 ⟨⟨aq, cq, rfl, -⟩, F13⟩
      simp only [List.length_nil]
      have HG13 := Lib.hid (HG12.out.trans F13)
      clear F13
      go_wp2_with fail
      refine (placeTop0_any _ (HE.out.old HG13.out)).mono ?_
      rintro e w14 ⟨rfl, F14⟩
      have HG14 := Lib.hid (HG13.out.trans F14)
      clear F14
      go_wp2_with fail
      refine (ixSame_any (.pointer none) (.pointer none) [] [] w14 (.inl ⟨rfl, rfl⟩) (.inl ⟨rfl, rfl⟩) (fun r hr => by cases hr) (fun r hr => by cases hr)).mono ?_
      rintro e w15 ⟨rfl, F15⟩
      rw [same_nil]
      have HG15 := Lib.hid (HG14.out.trans F15)
      clear F15
      go_wp2_with fail
      go_ret
      exact ⟨rfl, HG15.out⟩
    | error x =>
      rw [hnew] at ho1
      subst ho1
      have hx := newIx_err hnew
      have q1 : (x == 0) = false := by rcases hx with rfl | rfl <;> rfl
      have q2 : (x != 0) = true := by rcases hx with rfl | rfl <;> rfl
      have q3 : (x == x) = true := by simp
      have q4 : ¬ x = 0 := by rcases hx with rfl | rfl <;> decide
      have HNW := Lib.hid (show newIx (L.drop K ++ L.take K) = .error x from by rw [← HPM.out]; exact hnew)
      clear hx hnew
      go_wp2_with fail
      refine HN2.out.mono ?_
      rintro e w7 ⟨ho2, F7⟩
      unfold NewOut at ho2
      rw [HNW.out] at ho2
      subst ho2
      have HG7 := Lib.hid (HF6.out.trans F7)
      clear F7 HN1 HN2
      go_wp2_with fail
      refine (find0_any _ (HE.out.old (HG7.out))).mono ?_
      rintro e w8 ⟨rfl, F8⟩
      have HG8 := Lib.hid ((HG7.out.trans F8).alloc (.cells #[.slice none 0 0, .bool false, .slice none 0 0, .int .i64 0, .int .i64 0, .pointer none] 43))
      have HX8 := Lib.hid (F8.alloc (.cells #[.slice none 0 0, .bool false, .slice none 0 0, .int .i64 0, .int .i64 0, .pointer none] 43))
      clear F8
      go_wp2_with fail
      refine (at0_any _).mono ?_
      rintro e w9 ⟨rfl, F9⟩
      have HG9 := Lib.hid ((HG8.out.trans F9).alloc (.cells #[.slice none 0 0, .bool false, .slice none 0 0, .int .i64 0, .int .i64 0, .pointer none] 43))
      have HX9 := Lib.hid (HX8.out.trans (F9.alloc (.cells #[.slice none 0 0, .bool false, .slice none 0 0, .int .i64 0, .int .i64 0, .pointer none] 43)))
      clear F9
      go_wp2_with fail
      refine (ixKnown_any _ (HE.out.old HG9.out)).mono ?_
      rintro e w10 ⟨rfl, F10⟩
      have HG10 := Lib.hid (HG9.out.trans F10)
      have HX10 := Lib.hid (HX9.out.trans F10)
      clear F10 HX8 HX9 HG8 HG9
      go_wp2_with fail
      have HG11 := HG10
      refine (ixLen_any (.pointer none) [] w10 (.inl ⟨rfl, rfl⟩)).mono ?_
      rintro e w12 ⟨rfl, F12⟩
      simp only [List.length_nil]
      have HG12 := Lib.hid (HG11.out.trans F12)
      clear F12
      go_wp2_with fail
      refine (ixAll_any (.pointer none) [] w12 (.inl ⟨rfl, rfl⟩) (fun r hr => by cases hr) (by decide)).mono ?_
      rintro e w13 ⟨⟨aq, cq, rfl, -⟩, F13⟩
      simp only [List.length_nil]
      have HG13 := Lib.hid (HG12.out.trans F13)
      clear F13
      go_wp2_with fail
      refine (placeTop0_any _ (HE.out.old HG13.out)).mono ?_
      rintro e w14 ⟨rfl, F14⟩
      have HG14 := Lib.hid (HG13.out.trans F14)
      clear F14
      go_wp2_with fail
      refine (ixSame_any (.pointer none) (.pointer none) [] [] w14 (.inl ⟨rfl, rfl⟩) (.inl ⟨rfl, rfl⟩) (fun r hr => by cases hr) (fun r hr => by cases hr)).mono ?_
      rintro e w15 ⟨rfl, F15⟩
      rw [same_nil]
      have HG15 := Lib.hid (HG14.out.trans F15)
      clear F15
      go_wp2_with fail
      go_ret
      exact ⟨rfl, HG15.out⟩
end Go.Proofs.YtehlipgmkinfbaaGreatDoor
