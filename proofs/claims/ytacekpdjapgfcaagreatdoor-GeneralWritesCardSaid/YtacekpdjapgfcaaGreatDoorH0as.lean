/-
  Merged by program: XGenTo XGenF XGenFe XGenW XR15W XGenWa XR15K XNOut XNSmall XGrOut XGlLaw.
-/
import Derived.Test.YtacekpdjapgfcaaGreatDoorH0an
import Derived.Test.YtacekpdjapgfcaaGreatDoorH0ao
import Derived.Test.YtacekpdjapgfcaaGreatDoorH0ar
import Derived.Test.YtacekpdjapgfcaaGreatDoorH0am
import Derived.Test.YtacekpdjapgfcaaGreatDoorH0ai
import Derived.Test.YtacekpdjapgfcaaGreatDoorH0ap
import Derived.Test.YtacekpdjapgfcaaGreatDoorH0ad
import Derived.Deep.CutBlock
import Derived.Test.YtacekpdjapgfcaaGreatDoorH0af
namespace Go.Q
open Go Go.RowKit
theorem bytes_keeps {wb w : World} {v : Value} {l : List UInt8} (h : Bytes wb v l) (F : Fr (fun k => wb.heap.size ≤ k) wb w) (K : Nat → Prop) (hK : ∀ k, K k → wb.heap.size ≤ k) : Kept (fun W => Bytes W v l) K w := fun W f =>
  h.fr (F.trans (f.mono (fun k _ hk => hK k hk))) (fun h0 k hk hs => by have := h.lt h0 k hk; omega)
end Go.Q
namespace Go.Proofs.YtacekpdjapgfcaaGreatDoor
open Go Go.RowKit Go.Q
set_option linter.unusedSimpArgs false
set_option maxRecDepth 20000 in
set_option maxHeartbeats 4000000 in
theorem lawToK_any (v : Value) (n : List (List Part)) (wb w : World) (h : NameAt wb v n) (Fb : Fr (fun _ => False) wb w) :
    Calls Tryz.prog 10 #[v] w fun e w' => (∃ a c, e = .returned (.slice a (cutName n).length c) ∧ FRow (fun k => wb.heap.size ≤ k ∧ k < w.heap.size) 90 w' w.heap.size (.slice a (cutName n).length c) (cutName n)) ∧ Fr (fun _ => False) w w' := by
  have H := Lib.hid h
  have HFB := Lib.hid Fb
  obtain ⟨a, cap, rfl, -⟩ := h
  have hcs : cutName n = (n.take 70).map cutStep := rfl
  have HCS := Lib.hid hcs
  clear hcs Fb
  go_enter Tryz.func10, Tryz.ntmps10
  go_wp2_with fail
  go_loopg [3, 4] n.length (fun g u i wr => ∃ (j : Nat) (au : Option Addr) (cu : Nat), g = n.length - j ∧ j ≤ n.length ∧ j ≤ 70 ∧ u = .slice au j cu ∧ i = .int .i64 j ∧ FRow (fun k => wb.heap.size ≤ k ∧ k < w.heap.size) 90 wr w.heap.size (.slice au j cu) ((n.take j).map cutStep) ∧ Fr (fun _ => False) w wr)
  case atStart => exact ⟨0, none, 0, rfl, Nat.zero_le _, by omega, rfl, rfl, FRow.nil _ _ _ _, Fr.refl _⟩
  case round =>
    obtain ⟨j, au, cu, hg, hj, hj70, rfl, rfl, hrow, F⟩ := hrel
    have HG := Lib.hid hg
    have HRW := Lib.hid hrow
    have HF := Lib.hid F
    have hml : ((n.take j).map cutStep).length = j := by rw [List.length_map, List.length_take]; omega
    have HML := Lib.hid hml
    clear hg hrow hml
    by_cases hjl : j < n.length
    · have q1 : (j : Int) < (n.length : Int) := by omega
      by_cases h70 : j < 70
      · have q2 : (j : Int) < 70 := by omega
        obtain ⟨a0, cap0, he, _, _, hx⟩ := H.out
        simp only [Value.slice.injEq, true_and] at he
        obtain ⟨rfl, rfl⟩ := he
        obtain ⟨b, off, rfl, hy⟩ := hx (by omega)
        obtain ⟨r, hr⟩ : ∃ r, n[j]? = some r := ⟨_, List.getElem?_eq_getElem hjl⟩
        obtain ⟨x, e0, hA⟩ := hy j r hr
        have e1 := (HFB.out.trans F).cell e0 (fun h => h)
        have HS := Lib.hid (lawStep_any x r wb wr hA (HFB.out.trans F))
        have HMT := Lib.hid (map_take_succ cutStep hr)
        have r1 : (0 : Int) ≤ (j : Int) := by omega
        clear hx hy hr e0 hA
        obtain ⟨wo, hwo⟩ : ∃ wo : World, wo = wr := ⟨_, rfl⟩
        obtain rfl := hwo
        go_wp2_with fail
        refine HS.out.mono ?_
        rintro e w2 ⟨⟨a2, c2, rfl, hrow2⟩, F2⟩
        have hkp := HRW.out.keep
        have hk2 : Kept (fun W => Attrs W (.slice a2 (cutStep r).length c2) (cutStep r)) (fun k => (Value.slice au j cu).ownBlock = some k ∨ (wb.heap.size ≤ k ∧ k < w.heap.size)) w2 := hrow2.kept ((HFB.out.trans HF.out).trans F2) _ (fun k e => by
          have g1 := HFB.out.size
          have g2 := HF.out.size
          rcases e with e | e
          · have := hkp k e
            omega
          · omega)
        obtain ⟨a7, c7, w7, hrun, hrow7, F7⟩ := FRow.add Tryz.underlying25 info90 (HRW.out.old F2) (HF.out.trans F2).size ((Fr.refl w2).alloc (.cells #[.slice a2 (cutStep r).length c2] 90)) w2.heap.size _ (cutStep r) (Blk.new w2 90 #[.slice a2 (cutStep r).length c2]) rfl hk2 (by rw [HML.out]; omega)
        have HG7 := Lib.hid ((HF.out.trans F2).trans' F7 (fun i hi e => absurd hi (by have := (hkp i e).1; omega)))
        rw [HML.out] at hrun hrow7
        have HRUN := Lib.hid hrun
        have HROW7 := Lib.hid hrow7
        clear hrun hrow7 F7 hk2 hkp hrow2 F2 e1 HS
        go_wp2_with (at_builtin; refine wpList_append_run (by rfl) (.tmp 15) (.tmp 21) 25 (by rfl) _ w7 (by exact HRUN.out) ?_)
        go_roundg (n.length - (j + 1))
        case measure => rw [HG.out]; omega
        case rel => exact ⟨j + 1, a7, c7, rfl, by omega, by omega, rfl, by go_num, by rw [HMT.out]; exact HROW7.out, HG7.out⟩
      · obtain rfl : j = 70 := by omega
        have q2 : ¬ ((70 : Nat) : Int) < 70 := by omega
        have hres : (n.take 70).map cutStep = cutName n := HCS.out.symm
        have hrow := HRW.out
        rw [hres] at hrow
        have hlen : 70 = (cutName n).length := by rw [← hres, HML.out]
        have HL := Lib.hid hlen
        have HROW := Lib.hid hrow
        clear hres hrow hlen
        go_wp2_with fail
        go_ret
        exact ⟨⟨au, cu, by rw [← HL.out]; rfl, by rw [← HL.out]; exact HROW.out⟩, F⟩
    · obtain rfl : j = n.length := by omega
      have hres : (n.take n.length).map cutStep = cutName n := by rw [HCS.out, List.take_of_length_le hj70, List.take_length]
      have hrow := HRW.out
      rw [hres] at hrow
      have hlen : n.length = (cutName n).length := by rw [← hres, HML.out]
      have HL := Lib.hid hlen
      have HROW := Lib.hid hrow
      clear hres hrow hlen
      go_wp2_with fail
      go_ret
      exact ⟨⟨au, cu, by rw [← HL.out]; rfl, by rw [← HL.out]; exact HROW.out⟩, F⟩
set_option maxRecDepth 20000 in
set_option maxHeartbeats 2000000 in
theorem lawGOf_any (u : Value) (g : Gen) (wb w : World) (h : GenAt wb u g) (Fb : Fr (fun _ => False) wb w) (hn : g.n.length ≤ 1000000) (hr : ∀ r ∈ g.n, r.length ≤ 1000000) :
    Calls Tryz.prog 27 #[u] w fun e w' => (∃ ab cb an cn, e = .returned (.agg #[.int .i64 g.k, .slice ab g.b.length cb, .slice an g.n.length cn]) ∧ Kept (fun W => Bytes W (.slice ab g.b.length cb) g.b ∧ NameAt W (.slice an g.n.length cn) g.n) (fun k => wb.heap.size ≤ k ∧ k < w.heap.size) w') ∧ Fr (fun _ => False) w w' := by
  obtain ⟨ab, cb, an, cn, rfl, hb, hnm⟩ := h.form
  obtain ⟨z, hz⟩ : ∃ z, z = w.heap.size := ⟨_, rfl⟩
  have HZ := Lib.hid hz
  have F0 : Fr (fun _ => False) w ((w.alloc (.cells #[.int .i64 g.k, .slice ab g.b.length cb, .slice an g.n.length cn] 42)).alloc (.cells #[.int .i64 0, .slice none 0 0, .slice none 0 0] 46)) := ((Fr.refl w).alloc _).alloc _
  have B := (Blk.new w 42 #[.int .i64 g.k, .slice ab g.b.length cb, .slice an g.n.length cn]).alloc (.cells #[.int .i64 0, .slice none 0 0, .slice none 0 0] 46)
  have D := Blk.new (w.alloc (.cells #[.int .i64 g.k, .slice ab g.b.length cb, .slice an g.n.length cn] 42)) 46 #[.int .i64 0, .slice none 0 0, .slice none 0 0]
  rw [World.size_alloc, ← hz] at D
  rw [← hz] at B
  have HF0 := Lib.hid F0
  have hs0 : w.heap.size + 2 = ((w.alloc (.cells #[.int .i64 g.k, .slice ab g.b.length cb, .slice an g.n.length cn] 42)).alloc (.cells #[.int .i64 0, .slice none 0 0, .slice none 0 0] 46)).heap.size := by rw [World.size_alloc, World.size_alloc]
  have HFB := Lib.hid Fb
  have HBB := Lib.hid hb
  have HO := Lib.hid (fun W (F : Fr (fun _ => False) wb W) => lawOfK_any _ g.n wb W hnm F hn hr)
  clear h hz F0 Fb hb hnm hn hr
  go_enter Tryz.func27, Tryz.ntmps27
  go_upto_region 1 with fail
  rw [← HZ.out]
  have HS0 := Lib.hid hs0
  clear hs0
  generalize ((w.alloc (.cells #[.int .i64 g.k, .slice ab g.b.length cb, .slice an g.n.length cn] 42)).alloc (.cells #[.int .i64 0, .slice none 0 0, .slice none 0 0] 46)) = w0 at *
  replace B := B.drew
  replace D := D.drew
  have G : Fr (fun _ => False) w w0.drew := HF0.out.drew
  have HSD : w0.drew.heap.size = w0.heap.size := rfl
  have HSS := Lib.hid HSD
  clear HSD
  go_region_held3 (fun w' => ∀ j, w'.cell? ⟨z, j, none⟩ = (#[.int .i64 g.k, .slice ab g.b.length cb, .slice an g.n.length cn] : Array Value)[j]?) (first | exact B.cell | exact B5.cell) (first
    | (go_at_call 14; refine (HO.out _ (HFB.out.trans G)).mono ?_; rintro e w' ⟨⟨a9, c9, rfl, hq⟩, F⟩; replace B := B.fr F (fun h => h); replace D := D.fr F (fun h => h); have hkq := hq.kept (fun k => wb.heap.size ≤ k ∧ k < w0.heap.size) (fun k hk => by have h2 := HSS.out; omega); replace G := G.trans F; clear F hq; have d0 := D.cell 0; have d1 := D.cell 1; have d2 := D.cell 2; have f0 := D.frozen 0; have f1 := D.frozen 1; have f2 := D.frozen 2; have D5 := set3 D (.int .i64 g.k) (.slice ab g.b.length cb) (.slice a9 g.n.length c9); have B5 := B.fr D5.2 (by omega); simp only [List.getElem?_toArray, List.getElem?_cons_succ, List.getElem?_cons_zero] at d0 d1 d2))
  all_goals
    have n0 := D5.1.cell 0
    have n1 := D5.1.cell 1
    have n2 := D5.1.cell 2
    simp only [List.getElem?_toArray, List.getElem?_cons_succ, List.getElem?_cons_zero] at n0 n1 n2
    have hbk := bytes_keeps HBB.out ((HFB.out.trans G).mono (T := fun k => wb.heap.size ≤ k) (fun _ _ h => h.elim)) (fun k => wb.heap.size ≤ k ∧ k < w0.heap.size) (fun k hk => hk.1)
    have hsb := HFB.out.size
    have HK := Lib.hid ((Kept.both hbk hkq).step (K' := fun k => wb.heap.size ≤ k ∧ k < w.heap.size) D5.2 (fun k hk e => by have := HZ.out; have := HS0.out; omega) (fun k hk => by have := HS0.out; exact .inl (by omega)))
    have HF := Lib.hid (G.trans' D5.2 (fun i hi e => by have := HZ.out; omega))
    clear hbk hkq B D B5 D5 G
    go_wp2_with fail
    exact bodyPost_ret (v := .agg #[.int .i64 g.k, .slice ab g.b.length cb, .slice a9 g.n.length c9]) (by simp [results, Tryz.results27, go_sem, n0, n1, n2]) rfl ⟨⟨ab, cb, a9, c9, rfl, HK.out⟩, HF.out⟩
end Go.Proofs.YtacekpdjapgfcaaGreatDoor

namespace Go.Q
open Go Go.RowKit
def cutGen (g : Gen) : Gen := ⟨g.k, g.b.take 300, cutName (g.n.take 5)⟩
end Go.Q
namespace Go.Proofs.YtacekpdjapgfcaaGreatDoor
open Go Go.RowKit Go.Q
set_option linter.unusedSimpArgs false
set_option maxRecDepth 20000 in
set_option maxHeartbeats 4000000 in
theorem lawGTo_any (u : Value) (g : Gen) (wb w : World) (h : GenAt wb u g) (Fb : Fr (fun _ => False) wb w) :
    Calls Tryz.prog 40 #[u] w fun e w' => (∃ ab cb an cn, e = .returned (.agg #[.int .i64 (cutGen g).k, .slice ab (cutGen g).b.length cb, .slice an (cutGen g).n.length cn]) ∧ Kept (fun W => Bytes W (.slice ab (cutGen g).b.length cb) (cutGen g).b ∧ NameAt W (.slice an (cutGen g).n.length cn) (cutGen g).n) (fun k => wb.heap.size ≤ k ∧ k < w.heap.size) w') ∧ Fr (fun _ => False) w w' := by
  obtain ⟨ab, cb, an, cn, rfl, hb, hnm⟩ := h.form
  obtain ⟨_, _, he, hc1, hm1, -⟩ := Vals.form hb
  simp only [Value.slice.injEq] at he
  obtain ⟨rfl, -, rfl⟩ := he
  have hnm0 := hnm
  obtain ⟨_, _, he, hc2, hm2, -⟩ := hnm0
  simp only [Value.slice.injEq] at he
  obtain ⟨rfl, -, rfl⟩ := he
  unfold maxLen at hm1 hm2
  obtain ⟨mb, hmb⟩ : ∃ m : Nat, m = min g.b.length 300 := ⟨_, rfl⟩
  obtain ⟨mn, hmn⟩ : ∃ m : Nat, m = min g.n.length 5 := ⟨_, rfl⟩
  have HBB := Lib.hid (Vals.cut hb 300 mb hmb)
  have hnc := NameAt.cut hnm 5 mn hmn
  have hbl : (g.b.take 300).length = mb := by rw [List.length_take, hmb, Nat.min_comm]
  have HBL := Lib.hid hbl
  have c1 : min (g.b.length : Int) 300 = (mb : Int) := by omega
  have c2 : min (g.n.length : Int) 5 = (mn : Int) := by omega
  have c3 : (mb : Int) ≤ (cb : Int) := by omega
  have c4 : (mn : Int) ≤ (cn : Int) := by omega
  have c5 : (0 : Int) ≤ (mb : Int) := by omega
  have c6 : (0 : Int) ≤ (mn : Int) := by omega
  obtain ⟨z, hz⟩ : ∃ z, z = w.heap.size := ⟨_, rfl⟩
  have HZ := Lib.hid hz
  have F0 : Fr (fun _ => False) w ((w.alloc (.cells #[.int .i64 g.k, .slice ab g.b.length cb, .slice an g.n.length cn] 46)).alloc (.cells #[.int .i64 0, .slice none 0 0, .slice none 0 0] 42)) := ((Fr.refl w).alloc _).alloc _
  have B := (Blk.new w 46 #[.int .i64 g.k, .slice ab g.b.length cb, .slice an g.n.length cn]).alloc (.cells #[.int .i64 0, .slice none 0 0, .slice none 0 0] 42)
  have D := Blk.new (w.alloc (.cells #[.int .i64 g.k, .slice ab g.b.length cb, .slice an g.n.length cn] 46)) 42 #[.int .i64 0, .slice none 0 0, .slice none 0 0]
  rw [World.size_alloc, ← hz] at D
  rw [← hz] at B
  have HF0 := Lib.hid F0
  have hs0 : w.heap.size + 2 = ((w.alloc (.cells #[.int .i64 g.k, .slice ab g.b.length cb, .slice an g.n.length cn] 46)).alloc (.cells #[.int .i64 0, .slice none 0 0, .slice none 0 0] 42)).heap.size := by rw [World.size_alloc, World.size_alloc]
  have HFB := Lib.hid Fb
  have HO := Lib.hid (fun W (F : Fr (fun _ => False) wb W) => lawToK_any _ (g.n.take 5) wb W hnc F)
  obtain ⟨q, hq0⟩ : ∃ q, q = cutName (g.n.take 5) := ⟨_, rfl⟩
  have HCG := Lib.hid (show cutGen g = ⟨g.k, g.b.take 300, q⟩ by rw [hq0]; rfl)
  rw [← hq0] at HO
  clear h hz F0 Fb hb hnm hnc hbl hmb hmn hq0 hc1 hc2
  go_enter Tryz.func40, Tryz.ntmps40
  go_upto_region 1 with fail
  rw [← HZ.out]
  have HS0 := Lib.hid hs0
  clear hs0
  generalize ((w.alloc (.cells #[.int .i64 g.k, .slice ab g.b.length cb, .slice an g.n.length cn] 46)).alloc (.cells #[.int .i64 0, .slice none 0 0, .slice none 0 0] 42)) = w0 at *
  replace B := B.drew
  replace D := D.drew
  have G : Fr (fun _ => False) w w0.drew := HF0.out.drew
  have HSD : w0.drew.heap.size = w0.heap.size := rfl
  have HSS := Lib.hid HSD
  clear HSD
  go_region_held3 (fun w' => ∀ j, w'.cell? ⟨z, j, none⟩ = (#[.int .i64 g.k, .slice ab g.b.length cb, .slice an g.n.length cn] : Array Value)[j]?) (first | exact B.cell | exact B5.cell) (first
    | (go_at_call 10; refine (HO.out _ (HFB.out.trans G)).mono ?_; rintro e w' ⟨⟨a9, c9, rfl, hq⟩, F⟩; replace B := B.fr F (fun h => h); replace D := D.fr F (fun h => h); have hkq := hq.kept (fun k => wb.heap.size ≤ k ∧ k < w0.heap.size) (fun k hk => by have h2 := HSS.out; omega); replace G := G.trans F; clear F hq; have d0 := D.cell 0; have d1 := D.cell 1; have d2 := D.cell 2; have f0 := D.frozen 0; have f1 := D.frozen 1; have f2 := D.frozen 2; have D5 := set3 D (.int .i64 g.k) (.slice ab mb cb) (.slice a9 q.length c9); have B5 := B.fr D5.2 (by omega); simp only [List.getElem?_toArray, List.getElem?_cons_succ, List.getElem?_cons_zero] at d0 d1 d2))
  all_goals
    have n0 := D5.1.cell 0
    have n1 := D5.1.cell 1
    have n2 := D5.1.cell 2
    simp only [List.getElem?_toArray, List.getElem?_cons_succ, List.getElem?_cons_zero] at n0 n1 n2
    have hbk := bytes_keeps HBB.out ((HFB.out.trans G).mono (T := fun k => wb.heap.size ≤ k) (fun _ _ h => h.elim)) (fun k => wb.heap.size ≤ k ∧ k < w0.heap.size) (fun k hk => hk.1)
    have hsb := HFB.out.size
    have HK := Lib.hid ((Kept.both hbk hkq).step (K' := fun k => wb.heap.size ≤ k ∧ k < w.heap.size) D5.2 (fun k hk e => by have := HZ.out; have := HS0.out; omega) (fun k hk => by have := HS0.out; exact .inl (by omega)))
    have HF := Lib.hid (G.trans' D5.2 (fun i hi e => by have := HZ.out; omega))
    clear hbk hkq B D B5 D5 G
    go_wp2_with fail
    refine bodyPost_ret (v := .agg #[.int .i64 g.k, .slice ab mb cb, .slice a9 q.length c9]) (by simp [results, Tryz.results40, go_sem, n0, n1, n2]) rfl ⟨⟨ab, cb, a9, c9, ?_, ?_⟩, HF.out⟩
    · rw [HCG.out, HBL.out]
    · rw [HCG.out]
      show Kept (fun W => Bytes W (.slice ab (g.b.take 300).length cb) (g.b.take 300) ∧ NameAt W (.slice a9 q.length c9) q) _ _
      rw [HBL.out]
      exact HK.out
end Go.Proofs.YtacekpdjapgfcaaGreatDoor

namespace Go.Q
open Go Go.RowKit
def fewS (l : List Gen) : List Gen := (l.take 20).map cutGen
end Go.Q
namespace Go.Proofs.YtacekpdjapgfcaaGreatDoor
open Go Go.RowKit Go.Q
set_option linter.unusedSimpArgs false
end Go.Proofs.YtacekpdjapgfcaaGreatDoor

namespace Go.Q
open Go Go.RowKit
theorem wname_small {g : Gen} (h4 : g.k = 4) (hb : (genBody g).length ≤ 16777216) : (wholesN g.n).flatten.length ≤ 16777216 := by
  have : genBody g = nameWhole g.n := if_pos h4
  rw [this] at hb
  unfold nameWhole at hb
  rw [wrap_len] at hb
  omega
theorem wname_ok {g : Gen} (h : genOk g = true) (h4 : g.k = 4) : nameOk g.n = true := by
  unfold genOk at h
  rw [if_pos h4, Bool.and_eq_true] at h
  exact h.2
end Go.Q
namespace Go.Proofs.YtacekpdjapgfcaaGreatDoor
open Go Go.RowKit Go.Q
set_option linter.unusedSimpArgs false
set_option maxRecDepth 20000 in
set_option maxHeartbeats 4000000 in
theorem genWrite_bad (u : Value) (g : Gen) (w : World) (h : GenAt w u g) (hf : fewG g) (hok : genOk g = false) :
    Calls Tryz.prog 41 #[u] w fun e w' => e = .returned (.tuple #[.slice none 0 0, .int .i64 1]) ∧ Fr (fun _ => False) w w' := by
  obtain ⟨ab, cb, an, cn, rfl, hbb, hn⟩ := h.form
  obtain ⟨z, hz⟩ : ∃ z, z = w.heap.size := ⟨_, rfl⟩
  have HZ := Lib.hid hz
  have F0 : Fr (fun _ => False) w (w.alloc (.cells #[.int .i64 g.k, .slice ab g.b.length cb, .slice an g.n.length cn] 42)) := (Fr.refl w).alloc _
  have B := Blk.new w 42 #[.int .i64 g.k, .slice ab g.b.length cb, .slice an g.n.length cn]
  rw [← hz] at B
  have HR := genRight_any _ g _ (h.old F0) hf
  rw [hok] at HR
  have HRI := Lib.hid HR
  have HF0 := Lib.hid F0
  clear h hbb hn F0 hz HR hok
  go_enter Tryz.func41, Tryz.ntmps41
  go_upto_region 1 with fail
  rw [← HZ.out]
  generalize (w.alloc (.cells #[.int .i64 g.k, .slice ab g.b.length cb, .slice an g.n.length cn] 42)) = w0 at *
  have e0 := B.cell 0
  have e1 := B.cell 1
  have e2 := B.cell 2
  simp only [List.getElem?_toArray, List.getElem?_cons_succ, List.getElem?_cons_zero] at e0 e1 e2
  go_wp2_with fail
  refine HRI.out.mono ?_
  rintro e w1 ⟨rfl, F1⟩
  go_wp2_with fail
  exact bodyPost_ret (v := .tuple #[.slice none 0 0, .int .i64 1]) (by simp [results, Tryz.results41, go_sem]) rfl ⟨rfl, HF0.out.trans F1⟩
set_option maxRecDepth 20000 in
set_option maxHeartbeats 4000000 in
theorem genWrite_ok (u : Value) (g : Gen) (w : World) (h : GenAt w u g) (hf : fewG g) (hok : genOk g = true) (hb : (genBody g).length ≤ 16777216) :
    Calls Tryz.prog 41 #[u] w fun e w' => (∃ a c, e = .returned (.tuple #[.slice a (genWhole g).length c, .int .i64 0]) ∧ w'.ownsRow w.heap.size 5 1 (.slice a (genWhole g).length c) (genWhole g).length (Lib.byteCells (genWhole g))) ∧ Fr (fun _ => False) w w' := by
  obtain ⟨ab, cb, an, cn, rfl, hbb, hn⟩ := h.form
  obtain ⟨k0, k8⟩ := gen_kind hok
  obtain ⟨z, hz⟩ : ∃ z, z = w.heap.size := ⟨_, rfl⟩
  have HZ := Lib.hid hz
  have F0 : Fr (fun _ => False) w (w.alloc (.cells #[.int .i64 g.k, .slice ab g.b.length cb, .slice an g.n.length cn] 42)) := (Fr.refl w).alloc _
  have B := Blk.new w 42 #[.int .i64 g.k, .slice ab g.b.length cb, .slice an g.n.length cn]
  rw [← hz] at B
  have HR := genRight_any _ g _ (h.old F0) hf
  rw [hok] at HR
  have HRI := Lib.hid HR
  have HF0 := Lib.hid F0
  have HB := Lib.hid (hbb.old F0)
  have HN := Lib.hid (hn.old F0)
  have HFW := Lib.hid hf
  have HTG := Lib.hid (genTag_good k0 k8)
  have HTE := Lib.hid (show tagV (genTag g.k) = .agg #[.int .i64 2, .int .i64 g.k, .bool (madeG g.k)] from rfl)
  have HWH := Lib.hid (show genWhole g = wrapS (genTag g.k) (genBody g) from rfl)
  have HGT := Lib.hid (fun w => genTag_any g.k w)
  have hcase : (g.k = 4 ∧ (nameOk g.n = true ∧ (wholesN g.n).flatten.length ≤ 16777216 ∧ genBody g = nameWhole g.n)) ∨ ((g.k == 4) = false ∧ genBody g = g.b) := by
    by_cases h4 : g.k = 4
    · exact .inl ⟨h4, wname_ok hok h4, wname_small h4 hb, if_pos h4⟩
    · exact .inr ⟨beq_eq_false_iff_ne.2 h4, if_neg h4⟩
  clear h hbb hn F0 hz HR hok k0 k8 hf
  have HCS := Lib.hid hcase
  clear hcase
  go_enter Tryz.func41, Tryz.ntmps41
  go_upto_region 1 with fail
  rw [← HZ.out]
  generalize (w.alloc (.cells #[.int .i64 g.k, .slice ab g.b.length cb, .slice an g.n.length cn] 42)) = w0 at *
  have HBL := Lib.hid B
  have e0 := B.cell 0
  have e1 := B.cell 1
  have e2 := B.cell 2
  simp only [List.getElem?_toArray, List.getElem?_cons_succ, List.getElem?_cons_zero] at e0 e1 e2
  clear B
  go_wp2_with fail
  refine HRI.out.mono ?_
  rintro e w1 ⟨rfl, F1⟩
  have HB1 := Lib.hid (HB.out.old F1)
  have HN1 := Lib.hid (HN.out.old F1)
  have B1 := HBL.out.fr F1 (fun h => h)
  have HBL1 := Lib.hid B1
  have HF1 := Lib.hid (HF0.out.trans F1)
  clear e0 e1 e2 HB HN HBL HF0 F1 HRI
  have e0 := B1.cell 0
  have e1 := B1.cell 1
  have e2 := B1.cell 2
  simp only [List.getElem?_toArray, List.getElem?_cons_succ, List.getElem?_cons_zero] at e0 e1 e2
  clear B1
  rcases HCS.out with ⟨k4, hk⟩ | ⟨k4, hk⟩
  case inl =>
    have q4 : (g.k == 4) = true := by rw [k4]; rfl
    have HW := Lib.hid (nameWrite_ok _ g.n w1 HN1.out HFW.out.2 hk.1 hk.2.1)
    rw [hk.2.2] at hb HWH
    clear hk HCS k4
    go_wp2_with fail
    refine HW.out.mono ?_
    rintro e w2 ⟨⟨a2, c2, rfl, ho⟩, F2⟩
    have HV := Lib.hid (Vals.of_own ho).1
    have HF2 := Lib.hid (HF1.out.trans F2)
    have B2 := HBL1.out.fr F2 (fun h => h)
    clear ho F2 HW HF1 e0 e1 e2
    generalize nameWhole g.n = body at *
    have e0 := B2.cell 0
    have e1 := B2.cell 1
    have e2 := B2.cell 2
    simp only [List.getElem?_toArray, List.getElem?_cons_succ, List.getElem?_cons_zero] at e0 e1 e2
    go_upto_region 9 with fail
    go_wp2_with fail
    refine (HGT.out w2).mono ?_
    rintro e w3 ⟨rfl, F3⟩
    have HO := wrap_any (genTag g.k) HTG.out _ [body] _ (Parts.one (HV.out.old F3)) (by simpa using hb) (by simp)
    rw [HTE.out, List.flatten_singleton, ← HWH.out] at HO
    have HOI := Lib.hid HO
    have F4 := (HF2.out.trans F3).alloc (.cells #[.slice a2 body.length c2] 23)
    have HF4 := Lib.hid F4
    rw [HTE.out]
    clear F3 HO F4
    go_wp2_with fail
    refine HOI.out.mono ?_
    rintro e w4 ⟨v4, rfl, ho, F5⟩
    obtain ⟨av, m4, cv, rfl, rfl⟩ := own_shape ho
    have HF5 := Lib.hid (HF4.out.trans F5)
    have HOW := Lib.hid (own_le ho (base' := w.heap.size) HF4.out.size)
    clear ho F5
    go_wp2_with fail
    exact bodyPost_ret (v := .tuple #[.slice av (genWhole g).length cv, .int .i64 0]) (by simp [results, Tryz.results41, go_sem]) rfl ⟨⟨av, cv, rfl, HOW.out⟩, HF5.out⟩
  case inr =>
    rw [hk] at hb HWH
    have HV := HB1
    have HF2 := HF1
    clear hk HCS HF1
    go_upto_region 9 with fail
    go_wp2_with fail
    refine (HGT.out w1).mono ?_
    rintro e w3 ⟨rfl, F3⟩
    have HO := wrap_any (genTag g.k) HTG.out _ [g.b] _ (Parts.one (HV.out.old F3)) (by simpa using hb) (by simp)
    rw [HTE.out, List.flatten_singleton, ← HWH.out] at HO
    have HOI := Lib.hid HO
    have F4 := (HF2.out.trans F3).alloc (.cells #[.slice ab g.b.length cb] 23)
    have HF4 := Lib.hid F4
    rw [HTE.out]
    clear F3 HO F4
    go_wp2_with fail
    refine HOI.out.mono ?_
    rintro e w4 ⟨v4, rfl, ho, F5⟩
    obtain ⟨av, m4, cv, rfl, rfl⟩ := own_shape ho
    have HF5 := Lib.hid (HF4.out.trans F5)
    have HOW := Lib.hid (own_le ho (base' := w.heap.size) HF4.out.size)
    clear ho F5
    go_wp2_with fail
    exact bodyPost_ret (v := .tuple #[.slice av (genWhole g).length cv, .int .i64 0]) (by simp [results, Tryz.results41, go_sem]) rfl ⟨⟨av, cv, rfl, HOW.out⟩, HF5.out⟩
end Go.Proofs.YtacekpdjapgfcaaGreatDoor

namespace Go.Q
open Go Go.RowKit
theorem body_name {g : Gen} (h4 : g.k = 4) (hb : (genBody g).length ≤ 16777216) : (wholesN g.n).flatten.length ≤ 16777216 := by
  have : genBody g = nameWhole g.n := if_pos h4
  rw [this] at hb
  unfold nameWhole at hb
  rw [wrap_len] at hb
  omega
def genAll (l : List Gen) : List UInt8 := (l.map genWhole).flatten
theorem gen_name {g : Gen} (h : genOk g = true) (h4 : g.k = 4) : nameOk g.n = true := by
  unfold genOk at h
  rw [if_pos h4, Bool.and_eq_true] at h
  exact h.2
end Go.Q
namespace Go.Proofs.YtacekpdjapgfcaaGreatDoor
open Go Go.RowKit Go.Q
set_option linter.unusedSimpArgs false
set_option maxRecDepth 20000 in
set_option maxHeartbeats 4000000 in
theorem r15Write_any (u : Value) (g : Gen) (w : World) (h : GenAt w u g) (hf : fewG g) (hok : genOk g = true) (hb : (genBody g).length ≤ 16777216) :
    Calls Tryz.prog 44 #[u] w fun e w' => (∃ a c, e = .returned (.slice a (genWhole g).length c) ∧ w'.ownsRow w.heap.size 5 1 (.slice a (genWhole g).length c) (genWhole g).length (Lib.byteCells (genWhole g))) ∧ Fr (fun _ => False) w w' := by
  obtain ⟨ab, cb, an, cn, rfl, hbb, hn⟩ := h.form
  obtain ⟨k0, k8⟩ := gen_kind hok
  obtain ⟨k, b, n⟩ := g
  obtain ⟨f1, f2⟩ := hf
  simp only at hbb hn f1 f2 k0 k8 ⊢
  obtain ⟨z, hz⟩ : ∃ z, z = w.heap.size := ⟨_, rfl⟩
  have HZ := Lib.hid hz
  have F0 : Fr (fun _ => False) w (w.alloc (.cells #[.int .i64 k, .slice ab b.length cb, .slice an n.length cn] 46)) := (Fr.refl w).alloc _
  have B := Blk.new w 46 #[.int .i64 k, .slice ab b.length cb, .slice an n.length cn]
  rw [← hz] at B
  have HB := Lib.hid (hbb.old F0)
  have HF0 := Lib.hid F0
  have HTG := Lib.hid (genTag_good k0 k8)
  have HTE := Lib.hid (show genTag k = tagAt k (madeG k) from rfl)
  have HWH := Lib.hid (show genWhole ⟨k, b, n⟩ = wrapS (genTag k) (genBody ⟨k, b, n⟩) from rfl)
  have HMD := Lib.hid (fun w => r15made_any k w)
  obtain ⟨m, hm⟩ : ∃ m, m = madeG k := ⟨_, rfl⟩
  rw [← hm] at HTE HMD
  have hcase : (k = 4 ∧ (nameOk n = true ∧ (wholesN n).flatten.length ≤ 16777216 ∧ genBody ⟨k, b, n⟩ = nameWhole n)) ∨ ((k == 4) = false ∧ genBody ⟨k, b, n⟩ = b) := by
    by_cases h4 : k = 4
    · exact .inl ⟨h4, gen_name hok h4, body_name (g := ⟨k, b, n⟩) h4 hb, if_pos h4⟩
    · exact .inr ⟨beq_eq_false_iff_ne.2 h4, if_neg h4⟩
  have HN := Lib.hid (hn.old F0)
  have HF2 := Lib.hid f2
  clear h hbb hn F0 hz hok k0 k8 hm f2
  rcases hcase with ⟨h4, hk⟩ | ⟨k4, hk⟩
  case' inl =>
    have k4 : (k == 4) = true := by rw [h4]; rfl
    have HW := Lib.hid (r14Write_any _ n _ HN.out HF2.out hk.1 hk.2.1)
    rw [hk.2.2] at hb HWH
    clear hk h4
    go_enter Tryz.func44, Tryz.ntmps44
    go_upto_region 1 with fail
    rw [← HZ.out]
    generalize (w.alloc (.cells #[.int .i64 k, .slice ab b.length cb, .slice an n.length cn] 46)) = w0 at *
    have e0 := B.cell 0
    have e1 := B.cell 1
    have e2 := B.cell 2
    simp only [List.getElem?_toArray, List.getElem?_cons_succ, List.getElem?_cons_zero] at e0 e1 e2
    go_wp2_with fail
    refine HW.out.mono ?_
    rintro e w1 ⟨⟨a1, c1, rfl, ho⟩, F1⟩
    have HV := Lib.hid (Vals.of_own ho).1
    have HG1 := Lib.hid (HF0.out.trans F1)
    have B1 := B.fr F1 (fun h => h)
    clear B e0 e1 e2 ho F1 HW
    generalize nameWhole n = body at *
    go_upto_region 4 with fail
  case' inr =>
    rw [hk] at hb HWH
    clear hk
    go_enter Tryz.func44, Tryz.ntmps44
    go_upto_region 1 with fail
    rw [← HZ.out]
    generalize (w.alloc (.cells #[.int .i64 k, .slice ab b.length cb, .slice an n.length cn] 46)) = w1 at *
    have e0 := B.cell 0
    have e1 := B.cell 1
    have e2 := B.cell 2
    simp only [List.getElem?_toArray, List.getElem?_cons_succ, List.getElem?_cons_zero] at e0 e1 e2
    have HV := HB
    have HG1 := HF0
    have B1 := B
    go_upto_region 4 with fail
    clear B e0 e1 e2
  all_goals
    replace B1 := B1.drew
    have G1 : Fr (fun _ => False) w1 w1.drew := (Fr.refl w1).drew
    go_region_held3 (fun w' => ∀ j, w'.cell? ⟨z, j, none⟩ = (#[.int .i64 k, .slice ab b.length cb, .slice an n.length cn] : Array Value)[j]?) (exact B1.cell) (first
      | (go_at_call 74; refine (HMD.out _).mono ?_; rintro e w' ⟨rfl, rfl⟩)
      | (go_at_call 95; refine (r02At_any _ m _).mono ?_; rintro e w' ⟨rfl, F⟩; replace B1 := B1.fr F (fun h => h); replace G1 := G1.trans F; clear F)
      | (go_at_call 50; rw [← HTE.out]; refine (r02Wrap_any _ HTG.out _ _ _ (HV.out.old G1) hb).mono ?_; rintro e w' ⟨v', rfl, ho, F⟩; replace B1 := B1.fr F (fun h => h); have G2 := G1.trans F))
    all_goals
      obtain ⟨a7, n7, c7, rfl, rfl⟩ := own_shape ho
      have HO := Lib.hid (own_le ho (HG1.out.trans G1).size)
      have HG2 := Lib.hid (HG1.out.trans G2)
      clear ho G1 G2 F B1
      go_wp2_with fail
      go_ret
      rw [HWH.out]
      exact ⟨⟨a7, c7, rfl, HO.out⟩, HG2.out⟩
def allOkS (l : List Gen) : Bool := l.all genOk && decide (0 < l.length ∧ l.length ≤ 10000)
end Go.Proofs.YtacekpdjapgfcaaGreatDoor

namespace Go.Proofs.YtacekpdjapgfcaaGreatDoor
open Go Go.RowKit Go.Q
set_option linter.unusedSimpArgs false
end Go.Proofs.YtacekpdjapgfcaaGreatDoor

namespace Go.Q
open Go Go.RowKit
instance : DecidableEq Gen := fun p q => if h : p.k = q.k ∧ p.b = q.b ∧ p.n = q.n then isTrue (by cases p; cases q; simp_all) else isFalse (fun e => h (by rw [e]; exact ⟨rfl, rfl, rfl⟩))
theorem gen_eq {p q : Gen} : p = q ↔ p.k = q.k ∧ p.b = q.b ∧ p.n = q.n := by
  constructor
  · rintro rfl
    exact ⟨rfl, rfl, rfl⟩
  · intro h
    cases p
    cases q
    simp_all
theorem list_like {α : Type} {a b : List α} (hl : a.length = b.length) (h : ∀ i : Nat, i < a.length → a[i]? = b[i]?) : a = b := by
  apply List.ext_getElem?
  intro i
  rcases Nat.lt_or_ge i a.length with hi | hi
  · exact h i hi
  · rw [List.getElem?_eq_none hi, List.getElem?_eq_none (by omega)]
end Go.Q
namespace Go.Proofs.YtacekpdjapgfcaaGreatDoor
open Go Go.RowKit Go.Q
set_option linter.unusedSimpArgs false
set_option maxRecDepth 100000 in
set_option maxHeartbeats 8000000 in
theorem r15Like_any (v u : Value) (a b : List Gen) (w : World) (ha : Gens w v a) (hb : Gens w u b) :
    Calls Tryz.prog 26 #[v, u] w fun e w' => e = .returned (.bool (decide (a = b))) ∧ Fr (fun _ => False) w w' := by
  have HA := Lib.hid ha
  have HB := Lib.hid hb
  obtain ⟨pa, ca, rfl, h1, h2, -⟩ := ha
  obtain ⟨pb, cb, rfl, h3, h4, -⟩ := hb
  have hal : a.length ≤ 9223372036854775807 := by unfold maxLen at h2; omega
  by_cases hlen : a.length = b.length
  case neg =>
    have q1 : ((a.length : Int) == (b.length : Int)) = false := beq_eq_false_iff_ne.2 (by omega)
    have q2 : ((a.length : Int) != (b.length : Int)) = true := by simp; omega
    have q3 : (a.length == b.length) = false := beq_eq_false_iff_ne.2 hlen
    have q4 : (a.length != b.length) = true := by simpa using hlen
    have HD := Lib.hid (decide_eq_false (show ¬ a = b from fun e => hlen (by rw [e])))
    clear hlen h1 h2 h3 h4
    go_enter Tryz.func26, Tryz.ntmps26
    go_wp2_with fail
    go_ret
    exact ⟨by rw [HD.out]; rfl, Fr.refl _⟩
  have q1 : ((a.length : Int) == (b.length : Int)) = true := by rw [hlen]; simp
  have q2 : ((a.length : Int) != (b.length : Int)) = false := by rw [hlen]; simp
  have q3 : (a.length == b.length) = true := by rw [hlen]; simp
  have q4 : (a.length != b.length) = false := by rw [hlen]; simp
  have HLEN := Lib.hid hlen
  clear hlen h1 h2 h3 h4
  go_enter Tryz.func26, Tryz.ntmps26
  go_wp2_with fail
  go_loopg [5] a.length (fun g i wr => ∃ j : Nat, g = a.length - j ∧ j ≤ a.length ∧ i = .int .i64 j ∧ (∀ k : Nat, k < j → a[k]? = b[k]?) ∧ Fr (fun _ => False) w wr)
  case atStart => exact ⟨0, rfl, Nat.zero_le _, rfl, fun k h => absurd h (Nat.not_lt_zero _), Fr.refl _⟩
  case round =>
    obtain ⟨j, hg, hj, rfl, hall, F⟩ := hrel
    have HG := Lib.hid hg
    have HAL := Lib.hid hall
    have HF := Lib.hid F
    clear hg hall q1 q2 q3 q4
    by_cases hjl : j < a.length
    · obtain ⟨x, hx⟩ : ∃ x, a[j]? = some x := ⟨_, List.getElem?_eq_getElem hjl⟩
      have hjb : j < b.length := by have := HLEN.out; omega
      obtain ⟨y, hy⟩ : ∃ y, b[j]? = some y := ⟨_, List.getElem?_eq_getElem hjb⟩
      obtain ⟨ba, oa, ab, cab, an, can, rfl, -, hga, e0, e1, e2⟩ := (HA.out.old F).get hx
      obtain ⟨bb, ob, bb2, cbb, bn, cbn, rfl, -, hgb, g0, g1, g2⟩ := (HB.out.old F).get hy
      have r1 : (0 : Int) ≤ (j : Int) := by omega
      have r2 : (j : Int) < (a.length : Int) := by omega
      have r3 : (j : Int) < (b.length : Int) := by omega
      obtain ⟨va, na, heq, hba, hna⟩ := hga
      simp only [Value.agg.injEq, Array.mk.injEq, List.cons.injEq, and_true, true_and] at heq
      obtain ⟨rfl, rfl⟩ := heq
      obtain ⟨vb, nb, heq, hbb, hnb⟩ := hgb
      simp only [Value.agg.injEq, Array.mk.injEq, List.cons.injEq, and_true, true_and] at heq
      obtain ⟨rfl, rfl⟩ := heq
      have HS := Lib.hid (fun W (f : Fr (fun _ => False) wr W) => r01Same_any _ _ x.b y.b W (hba.old f) (hbb.old f))
      have HN := Lib.hid (fun W (f : Fr (fun _ => False) wr W) => r14Like_any _ _ x.n y.n W (hna.old f) (hnb.old f))
      have HXY := Lib.hid (show a[j]? = some x ∧ b[j]? = some y from ⟨hx, hy⟩)
      clear hx hy hba hna hbb hnb
      have hcase : (x.k ≠ y.k) ∨ (x.k = y.k ∧ x.b ≠ y.b) ∨ (x.k = y.k ∧ x.b = y.b) := by
        by_cases hk : x.k = y.k
        · by_cases hb : x.b = y.b
          · exact .inr (.inr ⟨hk, hb⟩)
          · exact .inr (.inl ⟨hk, hb⟩)
        · exact .inl hk
      have bad : x ≠ y → decide (a = b) = false := fun h => decide_eq_false (fun e => by
        have h1 := HXY.out.1
        rw [e, HXY.out.2] at h1
        simp only [Option.some.injEq] at h1
        exact h h1.symm)
      have BAD := Lib.hid bad
      clear bad
      rcases hcase with hk | ⟨hk, hb⟩ | ⟨hk, hb⟩
      · have s1 : (x.k == y.k) = false := beq_eq_false_iff_ne.2 hk
        have s2 : (x.k != y.k) = true := by simpa using hk
        have HD := Lib.hid (BAD.out (fun e => hk (by rw [e])))
        clear hk
        go_upto_region 6 with fail
        go_quiet (fail)
        go_wp2_with fail
        go_ret
        exact ⟨by rw [HD.out]; rfl, HF.out.drewN nq⟩
      · have s1 : (x.k == y.k) = true := by rw [hk]; simp
        have s2 : (x.k != y.k) = false := by rw [hk]; simp
        have HD := Lib.hid (BAD.out (fun e => hb (by rw [e])))
        have hs2 := HS.out
        simp only [decide_eq_false hb] at hs2
        have HS2 := Lib.hid hs2
        clear hs2
        have HN2 := HN
        clear hk hb HS F
        have HCL := Lib.hid (fun W (f : Fr (fun _ => False) wr W) => (show W.cell? ⟨ba, oa + j * 3, none⟩ = some (.int .i64 x.k) ∧ W.cell? ⟨ba, oa + j * 3 + 1, none⟩ = some (.slice ab x.b.length cab) ∧ W.cell? ⟨ba, oa + j * 3 + 2, none⟩ = some (.slice an x.n.length can) ∧ W.cell? ⟨bb, ob + j * 3, none⟩ = some (.int .i64 y.k) ∧ W.cell? ⟨bb, ob + j * 3 + 1, none⟩ = some (.slice bb2 y.b.length cbb) ∧ W.cell? ⟨bb, ob + j * 3 + 2, none⟩ = some (.slice bn y.n.length cbn) from ⟨f.cell e0 (fun h => h), f.cell e1 (fun h => h), f.cell e2 (fun h => h), f.cell g0 (fun h => h), f.cell g1 (fun h => h), f.cell g2 (fun h => h)⟩))
        clear e0 e1 e2 g0 g1 g2
        go_upto_region 6 with fail
        have G : Fr (fun _ => False) wr wr.drew := (Fr.refl wr).drew
        refine wp_region_held_drew (S := (fun w' => w'.cell? ⟨ba, oa + j * 3, none⟩ = some (.int .i64 x.k) ∧ w'.cell? ⟨ba, oa + j * 3 + 1, none⟩ = some (.slice ab x.b.length cab) ∧ w'.cell? ⟨ba, oa + j * 3 + 2, none⟩ = some (.slice an x.n.length can) ∧ w'.cell? ⟨bb, ob + j * 3, none⟩ = some (.int .i64 y.k) ∧ w'.cell? ⟨bb, ob + j * 3 + 1, none⟩ = some (.slice bb2 y.b.length cbb) ∧ w'.cell? ⟨bb, ob + j * 3 + 2, none⟩ = some (.slice bn y.n.length cbn))) (by kernel_rfl) ?_ (fun hHeld => ?_)
        · exact HCL.out _ G
        refine wpAnyH_take (i := 0) (v := ?vq0) (held_at held_z) (by kernel_rfl) (by kernel_rfl) (by kernel_rfl) (fun _ _ _ h => h) (Or.inl ⟨by rfl, ?hyq0⟩) (by assumption) ?restq0
        case hyq0 => intro w9 hSw; (try dsimp only at hSw); go_simp; all_goals with_reducible rfl
        try simp only [Act.put, List.setIfInBounds_toArray, List.set_cons_zero, List.set_cons_succ]
        refine wpAnyH_take (i := 1) (v := ?vq1) (held_at (held_s held_z)) (by kernel_rfl) (by kernel_rfl) (by kernel_rfl) (fun _ _ _ h => h) (Or.inl ⟨by rfl, ?hyq1⟩) (by assumption) ?restq1
        case hyq1 => intro w9 hSw; (try dsimp only at hSw); go_simp; all_goals with_reducible rfl
        try simp only [Act.put, List.setIfInBounds_toArray, List.set_cons_zero, List.set_cons_succ]
        refine wpAnyH_take (i := 2) (v := ?vq2) (held_at (held_s (held_s held_z))) (by kernel_rfl) (by kernel_rfl) (by kernel_rfl) (fun _ _ _ h => h) (Or.inl ⟨by rfl, ?hyq2⟩) (by assumption) ?restq2
        case hyq2 => intro w9 hSw; (try dsimp only at hSw); go_simp; all_goals with_reducible rfl
        try simp only [Act.put, List.setIfInBounds_toArray, List.set_cons_zero, List.set_cons_succ]
        refine wpAnyH_take (i := 3) (v := ?vq3) (held_at (held_s (held_s (held_s held_z)))) (by kernel_rfl) (by kernel_rfl) (by kernel_rfl) (fun _ _ _ h => h) (Or.inl ⟨by rfl, ?hyq3⟩) (by assumption) ?restq3
        case hyq3 => intro w9 hSw; (try dsimp only at hSw); go_simp; all_goals with_reducible rfl
        try simp only [Act.put, List.setIfInBounds_toArray, List.set_cons_zero, List.set_cons_succ]
        refine wpAnyH_take (i := 4) (v := ?vq4) (held_at (held_s (held_s (held_s (held_s held_z))))) (by kernel_rfl) (by kernel_rfl) (by kernel_rfl) (fun _ _ _ h => h) (Or.inl ⟨by rfl, ?hyq4⟩) (by assumption) ?restq4
        case hyq4 => intro w9 hSw; (try dsimp only at hSw); go_simp; all_goals with_reducible rfl
        try simp only [Act.put, List.setIfInBounds_toArray, List.set_cons_zero, List.set_cons_succ]
        refine wpAnyH_take (i := 5) (v := ?vq5) (held_at (held_s (held_s (held_s (held_s (held_s held_z)))))) (by kernel_rfl) (by kernel_rfl) (by kernel_rfl) (fun _ _ _ h => h) (Or.inl ⟨by rfl, ?hyq5⟩) (by assumption) ?restq5
        case hyq5 => intro w9 hSw; (try dsimp only at hSw); go_simp; all_goals with_reducible rfl
        try simp only [Act.put, List.setIfInBounds_toArray, List.set_cons_zero, List.set_cons_succ]
        refine wpAnyH_take (i := 6) (v := ?vq6) (held_at (held_s (held_s (held_s (held_s (held_s (held_s held_z))))))) (by kernel_rfl) (by kernel_rfl) (by kernel_rfl) (fun _ _ _ h => h) (Or.inl ⟨by rfl, ?hyq6⟩) (by assumption) ?restq6
        case hyq6 => intro w9 hSw; (try dsimp only at hSw); go_simp; all_goals with_reducible rfl
        try simp only [Act.put, List.setIfInBounds_toArray, List.set_cons_zero, List.set_cons_succ]
        refine wpAnyH_take (i := 7) (v := ?vq7) (held_at (held_s (held_s (held_s (held_s (held_s (held_s (held_s held_z)))))))) (by kernel_rfl) (by kernel_rfl) (by kernel_rfl) (fun _ _ _ h => h) (Or.inl ⟨by rfl, ?hyq7⟩) (by assumption) ?restq7
        case hyq7 => intro w9 hSw; (try dsimp only at hSw); go_simp; all_goals with_reducible rfl
        try simp only [Act.put, List.setIfInBounds_toArray, List.set_cons_zero, List.set_cons_succ]
        refine wpAnyH_take (i := 8) (v := ?vq8) (held_at (held_s (held_s (held_s (held_s (held_s (held_s (held_s (held_s held_z))))))))) (by kernel_rfl) (by kernel_rfl) (by kernel_rfl) (fun _ _ _ h => h) (Or.inl ⟨by rfl, ?hyq8⟩) (by assumption) ?restq8
        case hyq8 => intro w9 hSw; (try dsimp only at hSw); go_simp; all_goals with_reducible rfl
        try simp only [Act.put, List.setIfInBounds_toArray, List.set_cons_zero, List.set_cons_succ]
        refine wpAnyH_take (i := 9) (v := ?vq9) (held_at (held_s (held_s (held_s (held_s (held_s (held_s (held_s (held_s (held_s held_z)))))))))) (by kernel_rfl) (by kernel_rfl) (by kernel_rfl) (fun _ _ _ h => h) (Or.inl ⟨by rfl, ?hyq9⟩) (by assumption) ?restq9
        case hyq9 => intro w9 hSw; (try dsimp only at hSw); go_simp; all_goals with_reducible rfl
        try simp only [Act.put, List.setIfInBounds_toArray, List.set_cons_zero, List.set_cons_succ]
        refine wpAnyH_take (i := 10) (v := ?vq10) (held_at (held_s (held_s (held_s (held_s (held_s (held_s (held_s (held_s (held_s (held_s held_z))))))))))) (by kernel_rfl) (by kernel_rfl) (by kernel_rfl) (fun _ _ _ h => h) (Or.inl ⟨by rfl, ?hyq10⟩) (by assumption) ?restq10
        case hyq10 => intro w9 hSw; (try dsimp only at hSw); go_simp; all_goals with_reducible rfl
        try simp only [Act.put, List.setIfInBounds_toArray, List.set_cons_zero, List.set_cons_succ]
        refine wpAnyH_take (i := 11) (v := ?vq11) (held_at (held_s (held_s (held_s (held_s (held_s (held_s (held_s (held_s (held_s (held_s (held_s held_z)))))))))))) (by kernel_rfl) (by kernel_rfl) (by kernel_rfl) (fun _ _ _ h => h) (Or.inl ⟨by rfl, ?hyq11⟩) (by assumption) ?restq11
        case hyq11 => intro w9 hSw; (try dsimp only at hSw); go_simp; all_goals with_reducible rfl
        try simp only [Act.put, List.setIfInBounds_toArray, List.set_cons_zero, List.set_cons_succ]
        refine wpAnyH_take (i := 12) (v := ?vq12) (held_at (held_s (held_s (held_s (held_s (held_s (held_s (held_s (held_s (held_s (held_s (held_s (held_s held_z))))))))))))) (by kernel_rfl) (by kernel_rfl) (by kernel_rfl) (fun _ _ _ h => h) (Or.inl ⟨by rfl, ?hyq12⟩) (by assumption) ?restq12
        case hyq12 => intro w9 hSw; (try dsimp only at hSw); go_simp; all_goals with_reducible rfl
        try simp only [Act.put, List.setIfInBounds_toArray, List.set_cons_zero, List.set_cons_succ]
        refine wpAnyH_take (i := 13) (v := ?vq13) (held_at (held_s (held_s (held_s (held_s (held_s (held_s (held_s (held_s (held_s (held_s (held_s (held_s (held_s held_z)))))))))))))) (by kernel_rfl) (by kernel_rfl) (by kernel_rfl) (fun _ _ _ h => h) (Or.inl ⟨by rfl, ?hyq13⟩) (by assumption) ?restq13
        case hyq13 => intro w9 hSw; (try dsimp only at hSw); go_simp; all_goals with_reducible rfl
        try simp only [Act.put, List.setIfInBounds_toArray, List.set_cons_zero, List.set_cons_succ]
        refine wpAnyH_take (i := 14) (v := ?vq14) (held_at (held_s (held_s (held_s (held_s (held_s (held_s (held_s (held_s (held_s (held_s (held_s (held_s (held_s (held_s held_z))))))))))))))) (by kernel_rfl) (by kernel_rfl) (by kernel_rfl) (fun _ _ _ h => h) (Or.inl ⟨by rfl, ?hyq14⟩) (by assumption) ?restq14
        case hyq14 => intro w9 hSw; (try dsimp only at hSw); go_simp; all_goals with_reducible rfl
        try simp only [Act.put, List.setIfInBounds_toArray, List.set_cons_zero, List.set_cons_succ]
        refine wpAnyH_take (i := 15) (v := ?vq15) (held_at (held_s (held_s (held_s (held_s (held_s (held_s (held_s (held_s (held_s (held_s (held_s (held_s (held_s (held_s (held_s held_z)))))))))))))))) (by kernel_rfl) (by kernel_rfl) (by kernel_rfl) (fun _ _ _ h => h) (Or.inl ⟨by rfl, ?hyq15⟩) (by assumption) ?restq15
        case hyq15 => intro w9 hSw; (try dsimp only at hSw); go_simp; all_goals with_reducible rfl
        try simp only [Act.put, List.setIfInBounds_toArray, List.set_cons_zero, List.set_cons_succ]
        refine wpAnyH_take (i := 16) (v := ?vq16) (held_at (held_s (held_s (held_s (held_s (held_s (held_s (held_s (held_s (held_s (held_s (held_s (held_s (held_s (held_s (held_s (held_s held_z))))))))))))))))) (by kernel_rfl) (by kernel_rfl) (by kernel_rfl) (fun _ _ _ h => h) (Or.inl ⟨by rfl, ?hyq16⟩) (by assumption) ?restq16
        case hyq16 => intro w9 hSw; (try dsimp only at hSw); go_simp; all_goals with_reducible rfl
        try simp only [Act.put, List.setIfInBounds_toArray, List.set_cons_zero, List.set_cons_succ]
        refine wpAnyH_take (i := 17) (v := ?vq17) (held_at (held_s (held_s (held_s (held_s (held_s (held_s (held_s (held_s (held_s (held_s (held_s (held_s (held_s (held_s (held_s (held_s (held_s held_z)))))))))))))))))) (by kernel_rfl) (by kernel_rfl) (by kernel_rfl) (fun _ _ _ h => h) (Or.inl ⟨by rfl, ?hyq17⟩) (by assumption) ?restq17
        case hyq17 => intro w9 hSw; (try dsimp only at hSw); go_simp; all_goals with_reducible rfl
        try simp only [Act.put, List.setIfInBounds_toArray, List.set_cons_zero, List.set_cons_succ]
        refine wpAnyH_take (i := 18) (v := ?vq18) (held_at (held_s (held_s (held_s (held_s (held_s (held_s (held_s (held_s (held_s (held_s (held_s (held_s (held_s (held_s (held_s (held_s (held_s (held_s held_z))))))))))))))))))) (by kernel_rfl) (by kernel_rfl) (by kernel_rfl) (fun _ _ _ h => h) (Or.inl ⟨by rfl, ?hyq18⟩) (by assumption) ?restq18
        case hyq18 => intro w9 hSw; (try dsimp only at hSw); go_simp; all_goals with_reducible rfl
        try simp only [Act.put, List.setIfInBounds_toArray, List.set_cons_zero, List.set_cons_succ]
        refine wpAnyH_take (i := 19) (v := ?vq19) (held_at (held_s (held_s (held_s (held_s (held_s (held_s (held_s (held_s (held_s (held_s (held_s (held_s (held_s (held_s (held_s (held_s (held_s (held_s (held_s held_z)))))))))))))))))))) (by kernel_rfl) (by kernel_rfl) (by kernel_rfl) (fun _ _ _ h => h) (Or.inl ⟨by rfl, ?hyq19⟩) (by assumption) ?restq19
        case hyq19 => intro w9 hSw; (try dsimp only at hSw); go_simp; all_goals with_reducible rfl
        try simp only [Act.put, List.setIfInBounds_toArray, List.set_cons_zero, List.set_cons_succ]
        refine wpAnyH_take (i := 20) (v := ?vq20) (held_at (held_s (held_s (held_s (held_s (held_s (held_s (held_s (held_s (held_s (held_s (held_s (held_s (held_s (held_s (held_s (held_s (held_s (held_s (held_s (held_s held_z))))))))))))))))))))) (by kernel_rfl) (by kernel_rfl) (by kernel_rfl) (fun _ _ _ h => h) (Or.inl ⟨by rfl, ?hyq20⟩) (by assumption) ?restq20
        case hyq20 => intro w9 hSw; (try dsimp only at hSw); go_simp; all_goals with_reducible rfl
        try simp only [Act.put, List.setIfInBounds_toArray, List.set_cons_zero, List.set_cons_succ]
        refine wpAnyH_take (i := 21) (v := ?vq21) (held_at (held_s (held_s (held_s (held_s (held_s (held_s (held_s (held_s (held_s (held_s (held_s (held_s (held_s (held_s (held_s (held_s (held_s (held_s (held_s (held_s (held_s held_z)))))))))))))))))))))) (by kernel_rfl) (by kernel_rfl) (by kernel_rfl) (fun _ _ _ h => h) (Or.inl ⟨by rfl, ?hyq21⟩) (by assumption) ?restq21
        case hyq21 => intro w9 hSw; (try dsimp only at hSw); go_simp; all_goals with_reducible rfl
        try simp only [Act.put, List.setIfInBounds_toArray, List.set_cons_zero, List.set_cons_succ]
        refine wpAnyH_ready (rs := [22]) (by kernel_rfl) (by simp) ?_
        refine AllReadyH.cons (held_at (held_s (held_s (held_s (held_s (held_s (held_s (held_s (held_s (held_s (held_s (held_s (held_s (held_s (held_s (held_s (held_s (held_s (held_s (held_s (held_s (held_s (held_s held_z))))))))))))))))))))))) (fun K hK => ?_) AllReadyH.nil
        go_simp
        go_at_call 15; (with_reducible refine (HS2.out _ G).mono ?_); rintro e w' ⟨rfl, F⟩; replace G := G.trans F
        try go_wp2_with fail
        refine hK.out _ _ ?_ (fun hHeld => ?_)
        · exact HCL.out _ G
        clear hK K
        try simp only [Act.put, List.setIfInBounds_toArray, List.set_cons_zero, List.set_cons_succ]
        refine wpAnyH_take (i := 23) (v := ?vq23) (held_at (held_s (held_s (held_s (held_s (held_s (held_s (held_s (held_s (held_s (held_s (held_s (held_s (held_s (held_s (held_s (held_s (held_s (held_s (held_s (held_s (held_s (held_s (held_s held_z)))))))))))))))))))))))) (by kernel_rfl) (by kernel_rfl) (by kernel_rfl) (fun _ _ _ h => h) (Or.inl ⟨by rfl, ?hyq23⟩) (by assumption) ?restq23
        case hyq23 => intro w9 hSw; (try dsimp only at hSw); go_simp; all_goals with_reducible rfl
        try simp only [Act.put, List.setIfInBounds_toArray, List.set_cons_zero, List.set_cons_succ]
        refine wpAnyH_take (i := 24) (v := ?vq24) (held_at (held_s (held_s (held_s (held_s (held_s (held_s (held_s (held_s (held_s (held_s (held_s (held_s (held_s (held_s (held_s (held_s (held_s (held_s (held_s (held_s (held_s (held_s (held_s (held_s held_z))))))))))))))))))))))))) (by kernel_rfl) (by kernel_rfl) (by kernel_rfl) (fun _ _ _ h => h) (Or.inl ⟨by rfl, ?hyq24⟩) (by assumption) ?restq24
        case hyq24 => intro w9 hSw; (try dsimp only at hSw); go_simp; all_goals with_reducible rfl
        try simp only [Act.put, List.setIfInBounds_toArray, List.set_cons_zero, List.set_cons_succ]
        refine wpAnyH_take (i := 25) (v := ?vq25) (held_at (held_s (held_s (held_s (held_s (held_s (held_s (held_s (held_s (held_s (held_s (held_s (held_s (held_s (held_s (held_s (held_s (held_s (held_s (held_s (held_s (held_s (held_s (held_s (held_s (held_s held_z)))))))))))))))))))))))))) (by kernel_rfl) (by kernel_rfl) (by kernel_rfl) (fun _ _ _ h => h) (Or.inl ⟨by rfl, ?hyq25⟩) (by assumption) ?restq25
        case hyq25 => intro w9 hSw; (try dsimp only at hSw); go_simp; all_goals with_reducible rfl
        try simp only [Act.put, List.setIfInBounds_toArray, List.set_cons_zero, List.set_cons_succ]
        refine wpAnyH_take (i := 26) (v := undef) (held_at (held_s (held_s (held_s (held_s (held_s (held_s (held_s (held_s (held_s (held_s (held_s (held_s (held_s (held_s (held_s (held_s (held_s (held_s (held_s (held_s (held_s (held_s (held_s (held_s (held_s (held_s held_z))))))))))))))))))))))))))) (by kernel_rfl) (by kernel_rfl) (by kernel_rfl) (fun _ _ _ h => h) (Or.inr ⟨by rfl, rfl⟩) (by assumption) ?_
        try simp only [Act.put, List.setIfInBounds_toArray, List.set_cons_zero, List.set_cons_succ]
        refine wpAnyH_take (i := 27) (v := undef) (held_at (held_s (held_s (held_s (held_s (held_s (held_s (held_s (held_s (held_s (held_s (held_s (held_s (held_s (held_s (held_s (held_s (held_s (held_s (held_s (held_s (held_s (held_s (held_s (held_s (held_s (held_s (held_s held_z)))))))))))))))))))))))))))) (by kernel_rfl) (by kernel_rfl) (by kernel_rfl) (fun _ _ _ h => h) (Or.inr ⟨by rfl, rfl⟩) (by assumption) ?_
        try simp only [Act.put, List.setIfInBounds_toArray, List.set_cons_zero, List.set_cons_succ]
        refine wpAnyH_take (i := 28) (v := undef) (held_at (held_s (held_s (held_s (held_s (held_s (held_s (held_s (held_s (held_s (held_s (held_s (held_s (held_s (held_s (held_s (held_s (held_s (held_s (held_s (held_s (held_s (held_s (held_s (held_s (held_s (held_s (held_s (held_s held_z))))))))))))))))))))))))))))) (by kernel_rfl) (by kernel_rfl) (by kernel_rfl) (fun _ _ _ h => h) (Or.inr ⟨by rfl, rfl⟩) (by assumption) ?_
        try simp only [Act.put, List.setIfInBounds_toArray, List.set_cons_zero, List.set_cons_succ]
        refine wpAnyH_take (i := 29) (v := undef) (held_at (held_s (held_s (held_s (held_s (held_s (held_s (held_s (held_s (held_s (held_s (held_s (held_s (held_s (held_s (held_s (held_s (held_s (held_s (held_s (held_s (held_s (held_s (held_s (held_s (held_s (held_s (held_s (held_s (held_s held_z)))))))))))))))))))))))))))))) (by kernel_rfl) (by kernel_rfl) (by kernel_rfl) (fun _ _ _ h => h) (Or.inr ⟨by rfl, rfl⟩) (by assumption) ?_
        try simp only [Act.put, List.setIfInBounds_toArray, List.set_cons_zero, List.set_cons_succ]
        refine wpAnyH_take (i := 30) (v := undef) (held_at (held_s (held_s (held_s (held_s (held_s (held_s (held_s (held_s (held_s (held_s (held_s (held_s (held_s (held_s (held_s (held_s (held_s (held_s (held_s (held_s (held_s (held_s (held_s (held_s (held_s (held_s (held_s (held_s (held_s (held_s held_z))))))))))))))))))))))))))))))) (by kernel_rfl) (by kernel_rfl) (by kernel_rfl) (fun _ _ _ h => h) (Or.inr ⟨by rfl, rfl⟩) (by assumption) ?_
        try simp only [Act.put, List.setIfInBounds_toArray, List.set_cons_zero, List.set_cons_succ]
        refine wpAnyH_take (i := 31) (v := undef) (held_at (held_s (held_s (held_s (held_s (held_s (held_s (held_s (held_s (held_s (held_s (held_s (held_s (held_s (held_s (held_s (held_s (held_s (held_s (held_s (held_s (held_s (held_s (held_s (held_s (held_s (held_s (held_s (held_s (held_s (held_s (held_s held_z)))))))))))))))))))))))))))))))) (by kernel_rfl) (by kernel_rfl) (by kernel_rfl) (fun _ _ _ h => h) (Or.inr ⟨by rfl, rfl⟩) (by assumption) ?_
        try simp only [Act.put, List.setIfInBounds_toArray, List.set_cons_zero, List.set_cons_succ]
        refine wpAnyH_take (i := 32) (v := undef) (held_at (held_s (held_s (held_s (held_s (held_s (held_s (held_s (held_s (held_s (held_s (held_s (held_s (held_s (held_s (held_s (held_s (held_s (held_s (held_s (held_s (held_s (held_s (held_s (held_s (held_s (held_s (held_s (held_s (held_s (held_s (held_s (held_s held_z))))))))))))))))))))))))))))))))) (by kernel_rfl) (by kernel_rfl) (by kernel_rfl) (fun _ _ _ h => h) (Or.inr ⟨by rfl, rfl⟩) (by assumption) ?_
        try simp only [Act.put, List.setIfInBounds_toArray, List.set_cons_zero, List.set_cons_succ]
        refine wpAnyH_take (i := 33) (v := undef) (held_at (held_s (held_s (held_s (held_s (held_s (held_s (held_s (held_s (held_s (held_s (held_s (held_s (held_s (held_s (held_s (held_s (held_s (held_s (held_s (held_s (held_s (held_s (held_s (held_s (held_s (held_s (held_s (held_s (held_s (held_s (held_s (held_s (held_s held_z)))))))))))))))))))))))))))))))))) (by kernel_rfl) (by kernel_rfl) (by kernel_rfl) (fun _ _ _ h => h) (Or.inr ⟨by rfl, rfl⟩) (by assumption) ?_
        try simp only [Act.put, List.setIfInBounds_toArray, List.set_cons_zero, List.set_cons_succ]
        refine wpAnyH_take (i := 34) (v := undef) (held_at (held_s (held_s (held_s (held_s (held_s (held_s (held_s (held_s (held_s (held_s (held_s (held_s (held_s (held_s (held_s (held_s (held_s (held_s (held_s (held_s (held_s (held_s (held_s (held_s (held_s (held_s (held_s (held_s (held_s (held_s (held_s (held_s (held_s (held_s held_z))))))))))))))))))))))))))))))))))) (by kernel_rfl) (by kernel_rfl) (by kernel_rfl) (fun _ _ _ h => h) (Or.inr ⟨by rfl, rfl⟩) (by assumption) ?_
        try simp only [Act.put, List.setIfInBounds_toArray, List.set_cons_zero, List.set_cons_succ]
        refine wpAnyH_take (i := 35) (v := undef) (held_at (held_s (held_s (held_s (held_s (held_s (held_s (held_s (held_s (held_s (held_s (held_s (held_s (held_s (held_s (held_s (held_s (held_s (held_s (held_s (held_s (held_s (held_s (held_s (held_s (held_s (held_s (held_s (held_s (held_s (held_s (held_s (held_s (held_s (held_s (held_s held_z)))))))))))))))))))))))))))))))))))) (by kernel_rfl) (by kernel_rfl) (by kernel_rfl) (fun _ _ _ h => h) (Or.inr ⟨by rfl, rfl⟩) (by assumption) ?_
        try simp only [Act.put, List.setIfInBounds_toArray, List.set_cons_zero, List.set_cons_succ]
        refine wpAnyH_take (i := 36) (v := undef) (held_at (held_s (held_s (held_s (held_s (held_s (held_s (held_s (held_s (held_s (held_s (held_s (held_s (held_s (held_s (held_s (held_s (held_s (held_s (held_s (held_s (held_s (held_s (held_s (held_s (held_s (held_s (held_s (held_s (held_s (held_s (held_s (held_s (held_s (held_s (held_s (held_s held_z))))))))))))))))))))))))))))))))))))) (by kernel_rfl) (by kernel_rfl) (by kernel_rfl) (fun _ _ _ h => h) (Or.inr ⟨by rfl, rfl⟩) (by assumption) ?_
        try simp only [Act.put, List.setIfInBounds_toArray, List.set_cons_zero, List.set_cons_succ]
        refine wpAnyH_take (i := 37) (v := undef) (held_at (held_s (held_s (held_s (held_s (held_s (held_s (held_s (held_s (held_s (held_s (held_s (held_s (held_s (held_s (held_s (held_s (held_s (held_s (held_s (held_s (held_s (held_s (held_s (held_s (held_s (held_s (held_s (held_s (held_s (held_s (held_s (held_s (held_s (held_s (held_s (held_s (held_s held_z)))))))))))))))))))))))))))))))))))))) (by kernel_rfl) (by kernel_rfl) (by kernel_rfl) (fun _ _ _ h => h) (Or.inr ⟨by rfl, rfl⟩) (by assumption) ?_
        try simp only [Act.put, List.setIfInBounds_toArray, List.set_cons_zero, List.set_cons_succ]
        refine wpAnyH_take (i := 38) (v := ?vq38) (held_at (held_s (held_s (held_s (held_s (held_s (held_s (held_s (held_s (held_s (held_s (held_s (held_s (held_s (held_s (held_s (held_s (held_s (held_s (held_s (held_s (held_s (held_s (held_s (held_s (held_s (held_s (held_s (held_s (held_s (held_s (held_s (held_s (held_s (held_s (held_s (held_s (held_s (held_s held_z))))))))))))))))))))))))))))))))))))))) (by kernel_rfl) (by kernel_rfl) (by kernel_rfl) (fun _ _ _ h => h) (Or.inl ⟨by rfl, ?hyq38⟩) (by assumption) ?restq38
        case hyq38 => intro w9 hSw; (try dsimp only at hSw); go_simp; all_goals with_reducible rfl
        try simp only [Act.put, List.setIfInBounds_toArray, List.set_cons_zero, List.set_cons_succ]
        refine wpAnyH_done (by kernel_rfl) ?_ _
        all_goals
          have HG2 := Lib.hid (HF.out.trans G)
          go_wp2_with fail
          go_ret
          exact ⟨by rw [HD.out]; rfl, HG2.out⟩
      · have s1 : (x.k == y.k) = true := by rw [hk]; simp
        have s2 : (x.k != y.k) = false := by rw [hk]; simp
        have hs2 := HS.out
        simp only [decide_eq_true hb] at hs2
        have HS2 := Lib.hid hs2
        clear hs2
        have hnc : x.n = y.n ∨ x.n ≠ y.n := Classical.em _
        rcases hnc with hn | hn
        case' inl =>
          have hs2 := HN.out
          simp only [decide_eq_true hn] at hs2
          have HN2 := Lib.hid hs2
          clear hs2
          have HNX := Lib.hid (show ∀ k : Nat, k < j + 1 → a[k]? = b[k]? from fun k hk2 => by
            rcases Nat.lt_or_ge k j with h | h
            · exact HAL.out k h
            · obtain rfl : k = j := by omega
              rw [HXY.out.1, HXY.out.2, gen_eq.2 ⟨hk, hb, hn⟩])
        case' inr =>
          have hs2 := HN.out
          simp only [decide_eq_false hn] at hs2
          have HN2 := Lib.hid hs2
          clear hs2
          have HD := Lib.hid (BAD.out (fun e => hn (by rw [e])))
        all_goals
          clear hk hb hn HS HN F
        case inl =>
          go_upto_region 6 with fail
          have G : Fr (fun _ => False) wr wr.drew := (Fr.refl wr).drew
          replace e0 := G.cell e0 (fun h => h)
          replace e1 := G.cell e1 (fun h => h)
          replace e2 := G.cell e2 (fun h => h)
          replace g0 := G.cell g0 (fun h => h)
          replace g1 := G.cell g1 (fun h => h)
          replace g2 := G.cell g2 (fun h => h)
          go_region_held3 (fun w' => w'.cell? ⟨ba, oa + j * 3, none⟩ = some (.int .i64 x.k) ∧ w'.cell? ⟨ba, oa + j * 3 + 1, none⟩ = some (.slice ab x.b.length cab) ∧ w'.cell? ⟨ba, oa + j * 3 + 2, none⟩ = some (.slice an x.n.length can) ∧ w'.cell? ⟨bb, ob + j * 3, none⟩ = some (.int .i64 y.k) ∧ w'.cell? ⟨bb, ob + j * 3 + 1, none⟩ = some (.slice bb2 y.b.length cbb) ∧ w'.cell? ⟨bb, ob + j * 3 + 2, none⟩ = some (.slice bn y.n.length cbn)) (exact ⟨e0, e1, e2, g0, g1, g2⟩) (first
            | (go_at_call 15; refine (HS2.out _ G).mono ?_; rintro e w' ⟨rfl, F⟩; replace e0 := F.cell e0 (fun h => h); replace e1 := F.cell e1 (fun h => h); replace e2 := F.cell e2 (fun h => h); replace g0 := F.cell g0 (fun h => h); replace g1 := F.cell g1 (fun h => h); replace g2 := F.cell g2 (fun h => h); replace G := G.trans F; clear F)
            | (go_at_call 13; refine (HN2.out _ G).mono ?_; rintro e w' ⟨rfl, F⟩; replace e0 := F.cell e0 (fun h => h); replace e1 := F.cell e1 (fun h => h); replace e2 := F.cell e2 (fun h => h); replace g0 := F.cell g0 (fun h => h); replace g1 := F.cell g1 (fun h => h); replace g2 := F.cell g2 (fun h => h); replace G := G.trans F; clear F))
          all_goals
            have HG2 := Lib.hid (HF.out.trans G)
            go_wp2_with fail
            go_roundg (a.length - (j + 1))
            case measure => rw [HG.out]; omega
            case rel => exact ⟨j + 1, rfl, by omega, by go_num, HNX.out, HG2.out⟩
        case inr =>
          go_upto_region 6 with fail
          have G : Fr (fun _ => False) wr wr.drew := (Fr.refl wr).drew
          replace e0 := G.cell e0 (fun h => h)
          replace e1 := G.cell e1 (fun h => h)
          replace e2 := G.cell e2 (fun h => h)
          replace g0 := G.cell g0 (fun h => h)
          replace g1 := G.cell g1 (fun h => h)
          replace g2 := G.cell g2 (fun h => h)
          go_region_held3 (fun w' => w'.cell? ⟨ba, oa + j * 3, none⟩ = some (.int .i64 x.k) ∧ w'.cell? ⟨ba, oa + j * 3 + 1, none⟩ = some (.slice ab x.b.length cab) ∧ w'.cell? ⟨ba, oa + j * 3 + 2, none⟩ = some (.slice an x.n.length can) ∧ w'.cell? ⟨bb, ob + j * 3, none⟩ = some (.int .i64 y.k) ∧ w'.cell? ⟨bb, ob + j * 3 + 1, none⟩ = some (.slice bb2 y.b.length cbb) ∧ w'.cell? ⟨bb, ob + j * 3 + 2, none⟩ = some (.slice bn y.n.length cbn)) (exact ⟨e0, e1, e2, g0, g1, g2⟩) (first
            | (go_at_call 15; refine (HS2.out _ G).mono ?_; rintro e w' ⟨rfl, F⟩; replace e0 := F.cell e0 (fun h => h); replace e1 := F.cell e1 (fun h => h); replace e2 := F.cell e2 (fun h => h); replace g0 := F.cell g0 (fun h => h); replace g1 := F.cell g1 (fun h => h); replace g2 := F.cell g2 (fun h => h); replace G := G.trans F; clear F)
            | (go_at_call 13; refine (HN2.out _ G).mono ?_; rintro e w' ⟨rfl, F⟩; replace e0 := F.cell e0 (fun h => h); replace e1 := F.cell e1 (fun h => h); replace e2 := F.cell e2 (fun h => h); replace g0 := F.cell g0 (fun h => h); replace g1 := F.cell g1 (fun h => h); replace g2 := F.cell g2 (fun h => h); replace G := G.trans F; clear F))
          all_goals
            have HG2 := Lib.hid (HF.out.trans G)
            go_wp2_with fail
            go_ret
            exact ⟨by rw [HD.out]; rfl, HG2.out⟩
    · have hall := HAL.out
      have HD := Lib.hid (decide_eq_true (list_like HLEN.out (fun i hi => hall i (by omega))))
      clear hall
      go_wp2_with fail
      go_ret
      exact ⟨by rw [HD.out]; rfl, F⟩
end Go.Proofs.YtacekpdjapgfcaaGreatDoor

namespace Go.Q
open Go Go.RowKit
def nmVal : Except Int (List (List Part) × Nat) → List (List Part) | .ok (n, _) => n | .error _ => []
def stVal : Except Int (List Part × Nat) → List Part | .ok (n, _) => n | .error _ => []
def psVal : Except Int (List (List Part)) → List (List Part) | .ok n => n | .error _ => []
def atOf {α : Type} : Except Int (α × Nat) → Nat | .ok (_, k) => k | .error _ => 0
def errOf {α : Type} : Except Int α → Int | .ok _ => 0 | .error x => x
theorem NameAt.one {w : World} {g : Nat} {t : TypeId} {u : Value} {r : List Part} (B : Blk w g t #[u]) (h : Attrs w u r) : NameAt w (.slice (some ⟨g, 0, none⟩) 1 1) [r] :=
  ⟨_, 1, rfl, Nat.le_refl _, by unfold maxLen; omega, fun _ => ⟨g, 0, rfl, fun i q hq => by
    match i, hq with
    | 0, hq =>
      simp only [List.getElem?_cons_zero, Option.some.injEq] at hq
      subst hq
      exact ⟨u, B.cell 0, h⟩
    | i + 1, hq => simp at hq⟩⟩
end Go.Q
namespace Go.Proofs.YtacekpdjapgfcaaGreatDoor
open Go Go.RowKit Go.Q
end Go.Proofs.YtacekpdjapgfcaaGreatDoor

namespace Go.Q
open Go Go.RowKit
end Go.Q

namespace Go.Q
open Go Go.RowKit
def gVal : Except Int (Gen × Nat) → Gen | .ok (g, _) => g | .error _ => ⟨0, [], []⟩
def gsVal : Except Int (List Gen × Nat) → List Gen | .ok (g, _) => g | .error _ => []
def gaVal : Except Int (List Gen) → List Gen | .ok g => g | .error _ => []
def smallG (g : Gen) : Prop := g.n.length ≤ 64 ∧ ∀ r ∈ g.n, r.length ≤ 16
def allAt (l : List UInt8) : Nat := match genAllS l with | .ok _ => l.length | .error _ => 0
end Go.Q
namespace Go.Proofs.YtacekpdjapgfcaaGreatDoor
open Go Go.RowKit Go.Q
end Go.Proofs.YtacekpdjapgfcaaGreatDoor

namespace Go.Q
open Go Go.RowKit
theorem cutGen_len (g : Gen) : (cutGen g).b.length ≤ 300 ∧ (cutGen g).n.length ≤ 5 ∧ (∀ r ∈ (cutGen g).n, r.length ≤ 20) ∧ ∀ r ∈ (cutGen g).n, ∀ p ∈ r, p.b.length ≤ 200 := by
  refine ⟨?_, ?_, fun r hr => ?_, cutName_200 _⟩
  · show (g.b.take 300).length ≤ 300
    rw [List.length_take]
    omega
  · show (cutName (g.n.take 5)).length ≤ 5
    unfold cutName
    rw [List.length_map, List.length_take, List.length_take]
    omega
  · obtain ⟨q, -, rfl⟩ := List.mem_map.1 hr
    exact cutStep_len q
theorem cutGen_few (g : Gen) : fewG (cutGen g) := ⟨by have := (cutGen_len g).1; omega, fun r hr p hp => by have := (cutGen_len g).2.2.2 r hr p hp; omega⟩
theorem name_room_at {n : List (List Part)} (h : nameOk n = true) (hb : ∀ r ∈ n, ∀ p ∈ r, p.b.length ≤ 200) {k : Nat} (hk : n.length ≤ k) : (wholesN n).flatten.length ≤ k * 8102 := by
  obtain ⟨h1, h2⟩ := name_rdns h
  have h3 := flat_room (m := 8102) (ls := wholesN n) (fun x hx => by
    obtain ⟨r, hr, rfl⟩ := List.mem_map.1 hx
    obtain ⟨ws, hws⟩ := Option.isSome_iff_exists.1 (h2 r hr)
    rw [hws]
    exact (rdn_room hws (hb r hr)).2)
  have h4 : (wholesN n).length * 8102 ≤ k * 8102 := Nat.mul_le_mul_right 8102 (by simp [wholesN]; omega)
  exact Nat.le_trans h3 h4
end Go.Q
namespace Go.Proofs.YtacekpdjapgfcaaGreatDoor
open Go Go.RowKit Go.Q
theorem cut_body {g : Gen} (h : genOk (cutGen g) = true) : (genBody (cutGen g)).length ≤ 41000 := by
  obtain ⟨h1, h2, -, h4⟩ := cutGen_len g
  by_cases hk : (cutGen g).k = 4
  · have hn : nameOk (cutGen g).n = true := by
      unfold genOk at h
      rw [if_pos hk, Bool.and_eq_true] at h
      exact h.2
    have hr := name_room_at hn h4 h2
    have hb : genBody (cutGen g) = nameWhole (cutGen g).n := if_pos hk
    have hl := len_small (wholesN (cutGen g).n).flatten.length (by omega)
    rw [hb]
    unfold nameWhole
    rw [wrap_len]
    omega
  · have hb : genBody (cutGen g) = (cutGen g).b := if_neg hk
    rw [hb]
    omega
end Go.Proofs.YtacekpdjapgfcaaGreatDoor
