/-
  Merged by program: XNsRd XRdG XGenF XGenFe.
-/
import Derived.Test.YtacekpdjapgfcaaGreatDoorD0ae
import Derived.Test.YtacekpdjapgfcaaGreatDoorD0am
import Derived.Deep.Strs
import Derived.Test.YtacekpdjapgfcaaGreatDoorD0as
namespace Go.Proofs.YtacekpdjapgfcaaGreatDoor
open Go Go.RowKit Go.Q Go.ChangeShapes Go.WideShapes Go.ChangeAt
section
variable {H : Type} {enc : TypeId × Value → H} {w : World} {base fuel : Nat} {spare : Nat → Bool} {held : Bool} {cs : List Value} {x : DataW H × List MemPlace}
theorem rc107 : Tryz.prog.cellsOf 107 = 2 := by kernel_rfl
theorem rc92 : Tryz.prog.cellsOf 92 = 1 := by kernel_rfl
theorem rd_attr (h : DataW.trod enc Tryz.prog w base spare held fuel 107 cs = some x) (hl : cs.length = 2) : ∃ p : Part, ∃ v u, cs = [v, u] ∧ Ints w v p.o ∧ Bytes w u p.b := by
  obtain ⟨y0, y1, n, _, -, h0, h1⟩ := Go.ChangeShapes.trod_struct2 Tryz.underlying107 h
  obtain ⟨c0, c1, rfl⟩ := two_of hl
  have g0 : DataW.trod enc Tryz.prog w base spare held n 105 [c0] = some y0 := by rw [← show ([c0, c1].drop 0).take (Tryz.prog.cellsOf 105) = [c0] from by rw [rc105]; rfl]; exact h0
  have g1 : DataW.trod enc Tryz.prog w base spare held n 23 [c1] = some y1 := by rw [← show ([c0, c1].drop 1).take (Tryz.prog.cellsOf 23) = [c1] from by rw [rc23]; rfl]; exact h1
  obtain ⟨v, o, e0, ho⟩ := rd_ints g0
  obtain ⟨u, b, e1, hb⟩ := rd_bytes g1
  simp only [List.cons.injEq, and_true] at e0 e1
  subst e0; subst e1
  exact ⟨⟨o, b⟩, c0, c1, rfl, ho, hb⟩
theorem rd_attrs (h : DataW.trod enc Tryz.prog w base spare held fuel 92 cs = some x) : ∃ v l, cs = [v] ∧ Attrs w v l := by
  obtain ⟨a, cap, l, rfl, h1, h2, h3⟩ := rd_slice Tryz.underlying92 rc107 (by decide) (fun (p : Part) ds => ∃ v u, ds = [v, u] ∧ Ints w v p.o ∧ Bytes w u p.b) (fun n ds y hy hl => rd_attr hy hl) h
  refine ⟨_, l, rfl, a, cap, rfl, h1, h2, fun h0 => ?_⟩
  obtain ⟨b, o, rfl, hy⟩ := h3 h0
  refine ⟨b, o, rfl, fun i p hp => ?_⟩
  obtain ⟨ds, _, ⟨v, u, rfl, hv, hu⟩, hj⟩ := hy i p hp
  exact ⟨v, u, hj 0 _ rfl, hj 1 _ rfl, hv, hu⟩
theorem rd_name (h : DataW.trod enc Tryz.prog w base spare held fuel 22 cs = some x) : ∃ v n, cs = [v] ∧ NameAt w v n := by
  obtain ⟨a, cap, l, rfl, h1, h2, h3⟩ := rd_slice Tryz.underlying22 rc92 (by decide) (fun (r : List Part) ds => ∃ v, ds = [v] ∧ Attrs w v r) (fun n ds y hy _ => by
    obtain ⟨v, l, e, hl⟩ := rd_attrs hy
    exact ⟨l, v, e, hl⟩) h
  refine ⟨_, l, rfl, a, cap, rfl, h1, h2, fun h0 => ?_⟩
  obtain ⟨b, o, rfl, hy⟩ := h3 h0
  refine ⟨b, o, rfl, fun i r hr => ?_⟩
  obtain ⟨ds, _, ⟨v, rfl, hv⟩, hj⟩ := hy i r hr
  have := hj 0 _ rfl
  rw [Nat.one_mul, Nat.add_zero] at this
  exact ⟨v, this, hv⟩
end
end Go.Proofs.YtacekpdjapgfcaaGreatDoor

namespace Go.Proofs.YtacekpdjapgfcaaGreatDoor
open Go Go.RowKit Go.Q Go.ChangeShapes Go.WideShapes Go.ChangeAt
theorem three_of {α : Type} {l : List α} (h : l.length = 3) : ∃ a b c, l = [a, b, c] := by
  match l, h with
  | [a, b, c], _ => exact ⟨a, b, c, rfl⟩
section
variable {H : Type} {enc : TypeId × Value → H} {w : World} {base fuel : Nat} {spare : Nat → Bool} {held : Bool} {cs : List Value} {x : DataW H × List MemPlace}
theorem rc46 : Tryz.prog.cellsOf 46 = 3 := by kernel_rfl
theorem rc22 : Tryz.prog.cellsOf 22 = 1 := by kernel_rfl
theorem rd_gen (h : DataW.trod enc Tryz.prog w base spare held fuel 46 cs = some x) : ∃ g : Gen, RGen w cs g := by
  obtain ⟨y0, y1, y2, n, _, hl, h0, h1, h2⟩ := Go.Deep.trod_struct3 Tryz.underlying46 h
  rw [rc46] at hl
  obtain ⟨c0, c1, c2, rfl⟩ := three_of hl
  have g0 : DataW.trod enc Tryz.prog w base spare held n 3 [c0] = some y0 := by rw [← show ([c0, c1, c2].drop 0).take (Tryz.prog.cellsOf 3) = [c0] from by rw [rc3]; rfl]; exact h0
  have g1 : DataW.trod enc Tryz.prog w base spare held n 23 [c1] = some y1 := by rw [← show ([c0, c1, c2].drop 1).take (Tryz.prog.cellsOf 23) = [c1] from by rw [rc23]; rfl]; exact h1
  have g2 : DataW.trod enc Tryz.prog w base spare held n 22 [c2] = some y2 := by rw [← show ([c0, c1, c2].drop 2).take (Tryz.prog.cellsOf 22) = [c2] from by rw [rc22]; rfl]; exact h2
  obtain ⟨k, e, -, -⟩ := DataW.trod_int Tryz.underlying3 g0
  obtain ⟨v, b, e1, hb⟩ := rd_bytes g1
  obtain ⟨u, m, e2, hm⟩ := rd_name g2
  simp only [List.cons.injEq, and_true] at e e1 e2
  subst e; subst e1; subst e2
  exact ⟨⟨k, b, m⟩, c1, c2, rfl, hb, hm⟩
theorem rd_gens (h : DataW.trod enc Tryz.prog w base spare held fuel 52 cs = some x) : ∃ v l, cs = [v] ∧ Gens w v l := by
  obtain ⟨a, cap, l, rfl, h1, h2, h3⟩ := rd_slice Tryz.underlying52 rc46 (by decide) (fun (g : Gen) ds => RGen w ds g) (fun n ds y hy _ => rd_gen hy) h
  refine ⟨_, l, rfl, a, cap, rfl, h1, h2, fun h0 => ?_⟩
  obtain ⟨b, o, rfl, hy⟩ := h3 h0
  refine ⟨b, o, rfl, fun i g hg => ?_⟩
  obtain ⟨ds, hd, hr, hj⟩ := hy i g hg
  exact ⟨ds, hd, hj, hr⟩
end
end Go.Proofs.YtacekpdjapgfcaaGreatDoor

namespace Go.Q
open Go Go.RowKit
def cutGen (g : Gen) : Gen := ⟨g.k, g.b.take 300, cutName (g.n.take 5)⟩
end Go.Q
namespace Go.Proofs.YtacekpdjapgfcaaGreatDoor
open Go Go.RowKit Go.Q
set_option linter.unusedSimpArgs false
set_option maxRecDepth 20000 in
set_option maxHeartbeats 4000000 in
theorem lawGTo_any (u : Value) (g : Gen) (wb w : World) (h : GenAt wb u g) (Fb : Fr (fun _ => False) wb w) :
    Calls Tryz.prog 40 #[u] w fun e w' => (∃ ab cb an cn, e = .returned (.agg #[.int .i64 (cutGen g).k, .slice ab (cutGen g).b.length cb, .slice an (cutGen g).n.length cn]) ∧ Kept (fun W => Bytes W (.slice ab (cutGen g).b.length cb) (cutGen g).b ∧ NameAt W (.slice an (cutGen g).n.length cn) (cutGen g).n) (fun k => wb.heap.size ≤ k ∧ k < w.heap.size) w') ∧ Fr (fun _ => False) w w' := by
  obtain ⟨ab, cb, an, cn, rfl, hb, hnm⟩ := h.form
  obtain ⟨_, _, he, hc1, hm1, -⟩ := Vals.form hb
  simp only [Value.slice.injEq] at he
  obtain ⟨rfl, -, rfl⟩ := he
  have hnm0 := hnm
  obtain ⟨_, _, he, hc2, hm2, -⟩ := hnm0
  simp only [Value.slice.injEq] at he
  obtain ⟨rfl, -, rfl⟩ := he
  unfold maxLen at hm1 hm2
  obtain ⟨mb, hmb⟩ : ∃ m : Nat, m = min g.b.length 300 := ⟨_, rfl⟩
  obtain ⟨mn, hmn⟩ : ∃ m : Nat, m = min g.n.length 5 := ⟨_, rfl⟩
  have HBB := Lib.hid (Vals.cut hb 300 mb hmb)
  have hnc := NameAt.cut hnm 5 mn hmn
  have hbl : (g.b.take 300).length = mb := by rw [List.length_take, hmb, Nat.min_comm]
  have HBL := Lib.hid hbl
  have c1 : min (g.b.length : Int) 300 = (mb : Int) := by omega
  have c2 : min (g.n.length : Int) 5 = (mn : Int) := by omega
  have c3 : (mb : Int) ≤ (cb : Int) := by omega
  have c4 : (mn : Int) ≤ (cn : Int) := by omega
  have c5 : (0 : Int) ≤ (mb : Int) := by omega
  have c6 : (0 : Int) ≤ (mn : Int) := by omega
  obtain ⟨z, hz⟩ : ∃ z, z = w.heap.size := ⟨_, rfl⟩
  have HZ := Lib.hid hz
  have F0 : Fr (fun _ => False) w ((w.alloc (.cells #[.int .i64 g.k, .slice ab g.b.length cb, .slice an g.n.length cn] 46)).alloc (.cells #[.int .i64 0, .slice none 0 0, .slice none 0 0] 42)) := ((Fr.refl w).alloc _).alloc _
  have B := (Blk.new w 46 #[.int .i64 g.k, .slice ab g.b.length cb, .slice an g.n.length cn]).alloc (.cells #[.int .i64 0, .slice none 0 0, .slice none 0 0] 42)
  have D := Blk.new (w.alloc (.cells #[.int .i64 g.k, .slice ab g.b.length cb, .slice an g.n.length cn] 46)) 42 #[.int .i64 0, .slice none 0 0, .slice none 0 0]
  rw [World.size_alloc, ← hz] at D
  rw [← hz] at B
  have HF0 := Lib.hid F0
  have hs0 : w.heap.size + 2 = ((w.alloc (.cells #[.int .i64 g.k, .slice ab g.b.length cb, .slice an g.n.length cn] 46)).alloc (.cells #[.int .i64 0, .slice none 0 0, .slice none 0 0] 42)).heap.size := by rw [World.size_alloc, World.size_alloc]
  have HFB := Lib.hid Fb
  have HO := Lib.hid (fun W (F : Fr (fun _ => False) wb W) => lawToK_any _ (g.n.take 5) wb W hnc F)
  obtain ⟨q, hq0⟩ : ∃ q, q = cutName (g.n.take 5) := ⟨_, rfl⟩
  have HCG := Lib.hid (show cutGen g = ⟨g.k, g.b.take 300, q⟩ by rw [hq0]; rfl)
  rw [← hq0] at HO
  clear h hz F0 Fb hb hnm hnc hbl hmb hmn hq0 hc1 hc2
  go_enter Tryz.func40, Tryz.ntmps40
  go_upto_region 1 with fail
  rw [← HZ.out]
  have HS0 := Lib.hid hs0
  clear hs0
  generalize ((w.alloc (.cells #[.int .i64 g.k, .slice ab g.b.length cb, .slice an g.n.length cn] 46)).alloc (.cells #[.int .i64 0, .slice none 0 0, .slice none 0 0] 42)) = w0 at *
  replace B := B.drew
  replace D := D.drew
  have G : Fr (fun _ => False) w w0.drew := HF0.out.drew
  have HSD : w0.drew.heap.size = w0.heap.size := rfl
  have HSS := Lib.hid HSD
  clear HSD
  go_region_held3 (fun w' => ∀ j, w'.cell? ⟨z, j, none⟩ = (#[.int .i64 g.k, .slice ab g.b.length cb, .slice an g.n.length cn] : Array Value)[j]?) (first | exact B.cell | exact B5.cell) (first
    | (go_at_call 10; refine (HO.out _ (HFB.out.trans G)).mono ?_; rintro e w' ⟨⟨a9, c9, rfl, hq⟩, F⟩; replace B := B.fr F (fun h => h); replace D := D.fr F (fun h => h); have hkq := hq.kept (fun k => wb.heap.size ≤ k ∧ k < w0.heap.size) (fun k hk => by have h2 := HSS.out; omega); replace G := G.trans F; clear F hq; have d0 := D.cell 0; have d1 := D.cell 1; have d2 := D.cell 2; have f0 := D.frozen 0; have f1 := D.frozen 1; have f2 := D.frozen 2; have D5 := set3 D (.int .i64 g.k) (.slice ab mb cb) (.slice a9 q.length c9); have B5 := B.fr D5.2 (by omega); simp only [List.getElem?_toArray, List.getElem?_cons_succ, List.getElem?_cons_zero] at d0 d1 d2))
  all_goals
    have n0 := D5.1.cell 0
    have n1 := D5.1.cell 1
    have n2 := D5.1.cell 2
    simp only [List.getElem?_toArray, List.getElem?_cons_succ, List.getElem?_cons_zero] at n0 n1 n2
    have hbk := bytes_keeps HBB.out ((HFB.out.trans G).mono (T := fun k => wb.heap.size ≤ k) (fun _ _ h => h.elim)) (fun k => wb.heap.size ≤ k ∧ k < w0.heap.size) (fun k hk => hk.1)
    have hsb := HFB.out.size
    have HK := Lib.hid ((Kept.both hbk hkq).step (K' := fun k => wb.heap.size ≤ k ∧ k < w.heap.size) D5.2 (fun k hk e => by have := HZ.out; have := HS0.out; omega) (fun k hk => by have := HS0.out; exact .inl (by omega)))
    have HF := Lib.hid (G.trans' D5.2 (fun i hi e => by have := HZ.out; omega))
    clear hbk hkq B D B5 D5 G
    go_wp2_with fail
    refine bodyPost_ret (v := .agg #[.int .i64 g.k, .slice ab mb cb, .slice a9 q.length c9]) (by simp [results, Tryz.results40, go_sem, n0, n1, n2]) rfl ⟨⟨ab, cb, a9, c9, ?_, ?_⟩, HF.out⟩
    · rw [HCG.out, HBL.out]
    · rw [HCG.out]
      show Kept (fun W => Bytes W (.slice ab (g.b.take 300).length cb) (g.b.take 300) ∧ NameAt W (.slice a9 q.length c9) q) _ _
      rw [HBL.out]
      exact HK.out
end Go.Proofs.YtacekpdjapgfcaaGreatDoor

namespace Go.Q
open Go Go.RowKit
def fewS (l : List Gen) : List Gen := (l.take 20).map cutGen
theorem few_take {l : List Gen} {j : Nat} {x : Gen} (h : l[j]? = some x) : (l.take (j + 1)).map cutGen = (l.take j).map cutGen ++ [cutGen x] := by
  rw [List.take_add_one, h, List.map_append]
  rfl
end Go.Q
namespace Go.Proofs.YtacekpdjapgfcaaGreatDoor
open Go Go.RowKit Go.Q
set_option linter.unusedSimpArgs false
set_option maxRecDepth 20000 in
set_option maxHeartbeats 4000000 in
theorem lawFew_any (v : Value) (l : List Gen) (w : World) (h : Gens w v l) :
    Calls Tryz.prog 30 #[v] w fun e w' => (∃ a c, e = .returned (.slice a (fewS l).length c) ∧ Gens w' (.slice a (fewS l).length c) (fewS l)) ∧ Fr (fun _ => False) w w' := by
  have H := Lib.hid h
  have HDF := Lib.hid (show fewS l = (l.take 20).map cutGen from rfl)
  obtain ⟨a0, cap0, rfl, -⟩ := h
  go_enter Tryz.func30, Tryz.ntmps30
  go_wp2_with fail
  go_loopg [3, 4] l.length (fun g u i wr => ∃ (j : Nat) (a : Option Addr) (c : Nat) (gs : List Gen), g = l.length - j ∧ j ≤ l.length ∧ j ≤ 20 ∧ u = .slice a gs.length c ∧ i = .int .i64 j ∧ gs.length = j ∧ Hid (gs = (l.take j).map cutGen) ∧ GRow 3 RGen (fun _ => False) 42 wr w.heap.size (.slice a gs.length c) gs ∧ Fr (fun _ => False) w wr)
  case atStart => exact ⟨0, none, 0, [], rfl, Nat.zero_le _, by omega, rfl, rfl, rfl, Lib.hid rfl, GRow.nil _ _ _ _ _ _, Fr.refl _⟩
  case round =>
    obtain ⟨j, a, c, gs, hg, hj, hj20, rfl, rfl, hgl, HGS, hrow, F⟩ := hrel
    have HG := Lib.hid hg
    have HRW := Lib.hid hrow
    have HF := Lib.hid F
    have HGL := Lib.hid hgl
    clear hg hrow
    by_cases hjl : j < l.length
    · by_cases h20 : j < 20
      · obtain ⟨x, hx⟩ : ∃ x, l[j]? = some x := ⟨_, List.getElem?_eq_getElem hjl⟩
        obtain ⟨b, o, ab, cb, an, cn, rfl, -, hga, e0, e1, e2⟩ := H.out.get hx
        replace e0 := F.cell e0 (fun h => h)
        replace e1 := F.cell e1 (fun h => h)
        replace e2 := F.cell e2 (fun h => h)
        have r1 : (0 : Int) ≤ (j : Int) := by omega
        have r2 : (j : Int) < (l.length : Int) := by omega
        have r3 : (j : Int) < 20 := by omega
        have HO := Lib.hid (lawGTo_any _ x w wr hga F)
        have HX := Lib.hid (few_take hx)
        have hkp := HRW.out.keep
        clear hx hga F hgl h20
        generalize cutGen x = y at *
        go_wp2_with fail
        refine HO.out.mono ?_
        rintro e w2 ⟨⟨ab2, cb2, an2, cn2, rfl, hk⟩, F2⟩
        obtain ⟨a7, c7, w7, hrun, hrow7, F7, -⟩ := (HRW.out.old F2).add (s := 49) Tryz.underlying49 info42 rfl (by decide) (by decide) (HF.out.trans F2).size ((Fr.refl w2).alloc (.cells #[.int .i64 y.k, .slice ab2 y.b.length cb2, .slice an2 y.n.length cn2] 42)) w2.heap.size [.int .i64 y.k, .slice ab2 y.b.length cb2, .slice an2 y.n.length cn2] rfl (Blk.new w2 42 #[.int .i64 y.k, .slice ab2 y.b.length cb2, .slice an2 y.n.length cn2]) (by simp [Value.oneCell']) y ((hk.weaken (fun k hk => by
          rcases hk with hk | hk
          · exact hkp k hk
          · exact hk.elim)).imp (fun W h => ⟨_, _, rfl, h.1, h.2⟩)) (by have := HGL.out; omega)
        have HRUN := Lib.hid hrun
        have HRW7 := Lib.hid hrow7
        have HF7 := Lib.hid ((HF.out.trans F2).trans' F7 (fun i hi e => absurd hi (by have := (hkp i e).1; omega)))
        have HGS7 := Lib.hid (show gs ++ [y] = (l.take (j + 1)).map cutGen by rw [HX.out, HGS.out])
        clear F2 hk hrun hrow7 F7 HO HRW hkp e0 e1 e2
        go_wp2_with (at_builtin; refine wpList_append_run (by rfl) (.tmp 15) (.tmp 21) 49 (by rfl) _ w7 (by exact HRUN.out) ?_)
        go_roundg (l.length - (j + 1))
        case measure => rw [HG.out]; omega
        case rel => exact ⟨j + 1, a7, c7, gs ++ [y], rfl, by omega, by omega, by rw [List.length_append]; rfl, by go_num, by rw [List.length_append, HGL.out]; rfl, HGS7, by rw [List.length_append]; exact HRW7.out, HF7.out⟩
      · obtain rfl : j = 20 := by omega
        have q2 : ¬ ((20 : Nat) : Int) < 20 := by omega
        have q1 : ((20 : Nat) : Int) < (l.length : Int) := by omega
        have HE := Lib.hid (show gs = fewS l by rw [HGS.out, HDF.out])
        clear hgl hj20 h20
        go_wp2_with fail
        go_ret
        rw [← HE.out]
        exact ⟨⟨a, c, rfl, HRW.out.at (by decide)⟩, F⟩
    · have HE := Lib.hid (show gs = fewS l by rw [HGS.out, HDF.out, List.take_of_length_le (by omega), List.take_of_length_le (by omega)])
      clear hgl
      go_wp2_with fail
      go_ret
      rw [← HE.out]
      exact ⟨⟨a, c, rfl, HRW.out.at (by decide)⟩, F⟩
end Go.Proofs.YtacekpdjapgfcaaGreatDoor
