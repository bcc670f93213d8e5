/-
  Merged by program: XNRdn XNRight XRdSpec XNStr XR06a XR06b.
-/
import Derived.Test.YtacekpdjapgfcaaGreatDoorH0ae
import Derived.Lib.SliceRun
import Derived.Test.YtacekpdjapgfcaaGreatDoorH0ad
import Derived.Test.YtacekpdjapgfcaaGreatDoorH0aa
import Derived.Laws.IdiomStrings
import Derived.Shelf.Bytes.SlSmallAll
import Derived.Lib.ConvBytes
namespace Go.Proofs.YtacekpdjapgfcaaGreatDoor
open Go Go.RowKit Go.Q
theorem steps_next {l : List Part} {ws : List (List UInt8)} {x : List UInt8} {j : Nat} (hS : stepsS none l = (stepsS ws.getLast? (l.drop j)).map (ws ++ ·))
    (hsp : stepsS ws.getLast? (l.drop j) = if (match ws.getLast? with | some y => decide (0 ≤ cmpS y x) | none => false) = true then none else (stepsS (some x) (l.drop (j + 1))).map (x :: ·))
    (hc : (match ws.getLast? with | some y => decide (0 ≤ cmpS y x) | none => false) = false) : stepsS none l = (stepsS (ws ++ [x]).getLast? (l.drop (j + 1))).map ((ws ++ [x]) ++ ·) := by
  rw [hS, hsp, hc, List.getLast?_concat]
  simp only [Bool.false_eq_true, ↓reduceIte, Option.map_map]
  congr 1
  funext y
  simp
theorem attr_len {o : List Int} {b x : List UInt8} (h : attrS o b = some x) (hb : b.length ≤ 10000000) : 0 < x.length ∧ x.length ≤ 1099511627776 := by
  unfold attrS at h
  split at h
  · rename_i h0
    simp only [Bool.and_eq_true] at h0
    simp only [Option.some.injEq] at h
    subst h
    have h1 := oidWhole_len (nums_ok h0.1).2.1
    have h2 : (lenBytes (oidWhole o ++ b).length).length ≤ 5 := by unfold lenBytes; (repeat' split) <;> simp
    rw [wrap_len, List.length_append] at *
    omega
  · cases h
set_option maxRecDepth 20000 in
set_option maxHeartbeats 2000000 in
theorem wholesRdn_any (v : Value) (l : List Part) (w : World) (h : Attrs w v l) (hf : fewB l) :
    Calls Tryz.prog 103 #[v] w fun e w' => (∃ v', e = .returned (.tuple #[v', .bool (rdnS l).isSome]) ∧ ∀ ls, rdnS l = some ls → Row w' w.heap.size v' ls) ∧ Fr (fun _ => False) w w' := by
  have H := Lib.hid h
  obtain ⟨a, cap, rfl, hc, hm, -⟩ := h
  rcases Classical.em (l.length = 0 ∨ 16 < l.length) with hl | hl
  · have hn : rdnS l = none := by unfold rdnS; rw [if_pos hl]
    rcases hl with hl | hl
    · have HN := Lib.hid hn
      have q1 : ((l.length : Int) == 0) = true := by rw [hl]; rfl
      have q2 : (l.length == 0) = true := by rw [hl]; rfl
      clear hn
      go_enter Tryz.func103, Tryz.ntmps103
      go_wp2_with fail
      refine bodyPost_ret (v := .tuple #[.slice none 0 0, .bool false]) (by simp [results, Tryz.results103, go_sem]) rfl ⟨⟨_, by rw [HN.out]; rfl, fun ls e => by rw [HN.out] at e; cases e⟩, Fr.refl _⟩
    · have HN := Lib.hid hn
      have q1 : ((l.length : Int) == 0) = false := beq_eq_false_iff_ne.2 (by omega)
      have q2 : (l.length == 0) = false := beq_eq_false_iff_ne.2 (by omega)
      have q3 : (16 : Int) < (l.length : Int) := by omega
      clear hn
      go_enter Tryz.func103, Tryz.ntmps103
      go_wp2_with fail
      refine bodyPost_ret (v := .tuple #[.slice none 0 0, .bool false]) (by simp [results, Tryz.results103, go_sem]) rfl ⟨⟨_, by rw [HN.out]; rfl, fun ls e => by rw [HN.out] at e; cases e⟩, Fr.refl _⟩
  · have hn : rdnS l = stepsS none l := by unfold rdnS; rw [if_neg hl]
    have HN := Lib.hid hn
    have q1 : ((l.length : Int) == 0) = false := beq_eq_false_iff_ne.2 (by omega)
    have q2 : (l.length == 0) = false := beq_eq_false_iff_ne.2 (by omega)
    have q3 : ¬ (16 : Int) < (l.length : Int) := by omega
    have qT : ∀ (w : World) (a : Option Addr) (n c n' c' : Nat), (binOp .eql 23 (.slice a n c) (.slice none n' c')).run Tryz.prog w = .ok (.bool a.isNone) w := fun w a n c n' c' => Lib.run_eql_slice_nil w _ _ a n c n' c' Tryz.underlying23
    clear hn
    go_enter Tryz.func103, Tryz.ntmps103
    go_wp2_with fail
    go_loopg [4, 18] l.length (fun g u i wr => ∃ (j : Nat) (ws : List (List UInt8)), g = l.length - j ∧ j ≤ l.length ∧ i = .int .i64 j ∧ ws.length = j ∧ (∀ y ∈ ws, y.length ≤ 1099511627776) ∧ Row wr w.heap.size u ws ∧ Fr (fun _ => False) w wr ∧ (stepsS none l = (stepsS ws.getLast? (l.drop j)).map (ws ++ ·)))
    case atStart => exact ⟨0, [], rfl, Nat.zero_le _, rfl, rfl, by simp, Row.nil _ _, Fr.refl _, by simp⟩
    case round =>
      obtain ⟨j, ws, hg, hj, rfl, hws, hwl, hrow, F, hS⟩ := hrel
      have HG := Lib.hid hg
      have HS := Lib.hid hS
      have HF := Lib.hid F
      obtain ⟨au, cu, rfl⟩ : ∃ au cu, u4 = .slice au j cu := by
        obtain ⟨us, h1, _⟩ := hrow
        obtain ⟨a0, m0, c0, rfl, rfl⟩ := own_shape h1
        exact ⟨_, _, by rw [hws]⟩
      have HR := Lib.hid hrow
      have HWS := Lib.hid hws
      clear hg hS hrow hws
      by_cases hjl : j < l.length
      · obtain ⟨a0, cap0, he, _, _, hx⟩ := H.out.old F
        simp only [Value.slice.injEq, true_and] at he
        obtain ⟨rfl, rfl⟩ := he
        obtain ⟨b, off, rfl, hy⟩ := hx (by omega)
        obtain ⟨p, hp⟩ : ∃ p, l[j]? = some p := ⟨_, List.getElem?_eq_getElem hjl⟩
        obtain ⟨x, y, e1, e2, hpx, hpy⟩ := hy j p hp
        have hsp := Lib.hid (stepsS_split l j p hp ws.getLast?)
        have hpb := hf p (List.mem_of_getElem? hp)
        have r1 : (0 : Int) ≤ (j : Int) := by omega
        have r2 : (j : Int) < (l.length : Int) := by omega
        have HPX := Lib.hid hpx
        have HPY := Lib.hid hpy
        obtain ⟨ax, cx, rfl, -⟩ := Ints.form hpx
        obtain ⟨ay, cy, rfl, -⟩ := Vals.form hpy
        have e1' : wr.cell? ⟨b, off + j * 2, none⟩ = some (.slice ax p.o.length cx) := by rw [Nat.mul_comm]; exact e1
        have e2' : wr.cell? ⟨b, off + j * 2 + 1, none⟩ = some (.slice ay p.b.length cy) := by rw [Nat.mul_comm]; exact e2
        clear hx hy hp hpx hpy F
        go_upto_region 7 with fail
        have BZ := Blk.new wr 108 #[.slice ax p.o.length cx, .slice ay p.b.length cy]
        have F1 : Fr (fun _ => False) wr (wr.alloc (.cells #[.slice ax p.o.length cx, .slice ay p.b.length cy] 108)) := (Fr.refl wr).alloc _
        have HPX1 := Lib.hid (HPX.out.old F1)
        have HPY1 := Lib.hid (HPY.out.old F1)
        have HR1 := Lib.hid (HR.out.old F1)
        have HF1 := Lib.hid (HF.out.trans F1)
        clear e1 e2 e1' e2' HPX HPY HF F1 HR
        generalize (wr.alloc (.cells #[.slice ax p.o.length cx, .slice ay p.b.length cy] 108)) = w1 at *
        have z0 := BZ.cell 0
        have z1 := BZ.cell 1
        simp at z0 z1
        go_wp2_with fail
        refine (whole_any _ _ p.o p.b w1 HPX1.out HPY1.out hpb).mono ?_
        rintro e w2 ⟨v2, rfl, hout, F2⟩
        have HR2 := Lib.hid (HR1.out.old F2)
        have HF2 := Lib.hid (HF1.out.trans F2)
        unfold wholeOut at hout
        have hlw1 : ∀ k, (Value.slice au j cu).ownBlock = some k → k < w1.heap.size := fun k hk => by
          obtain ⟨us, g1, _⟩ := HR1.out
          exact ((Vals.of_own g1).2 k hk).2
        have HLW := Lib.hid hlw1
        clear z0 z1 BZ HPX1 HPY1 HR1 HF1 F2 hlw1
        cases hq : attrS p.o p.b with
        | none =>
          rw [hq] at hout
          subst hout
          have hn : rdnS l = none := by rw [HN.out, HS.out, hsp.out, hq]; rfl
          have HNN := Lib.hid hn
          clear hn
          go_wp2_with fail
          refine bodyPost_ret (v := .tuple #[.slice none 0 0, .bool false]) (by simp [results, Tryz.results103, go_sem]) rfl ⟨⟨_, by rw [HNN.out]; rfl, fun ls e => by rw [HNN.out] at e; cases e⟩, HF2.out⟩
        | some x =>
          rw [hq] at hout
          have hsp1 := hsp.out
          rw [hq] at hsp1
          have hx0 : 0 < x.length ∧ x.length ≤ 1099511627776 := attr_len hq hpb
          have HO := Lib.hid hout
          obtain ⟨g2, c2, hgc, hv2⟩ : ∃ g c, w1.heap.size ≤ g ∧ v2 = .slice (some ⟨g, 0, none⟩) x.length c := by
            rcases hout.2 with ⟨rfl, h0⟩ | ⟨g, cap, cur, rfl, hg, _⟩
            · omega
            · exact ⟨g, cap, hg, rfl⟩
          subst hv2
          have HSP := Lib.hid hsp1
          clear hout hsp hsp1
          have hadd : ∀ w3, Fr (fun _ => False) w2 w3 → ∃ a5 c5 w5, (Builtin.append_ #[136, 136] 136 #[.slice au j cu, .slice (some ⟨w3.heap.size, 0, none⟩) 1 1]).run Tryz.prog (w3.alloc (.cells #[.slice (some ⟨g2, 0, none⟩) x.length c2] 23)) = .ok (.slice a5 (j + 1) c5) w5 ∧ Row w5 w.heap.size (.slice a5 (j + 1) c5) (ws ++ [x]) ∧ Fr (fun _ => False) w w5 := fun w3 F23 => by
            have F3 : Fr (fun _ => False) w2 (w3.alloc (.cells #[.slice (some ⟨g2, 0, none⟩) x.length c2] 23)) := F23.alloc _
            have hadd := Row.add (HR2.out.old F3) w3.heap.size (.slice (some ⟨g2, 0, none⟩) x.length c2) x (Blk.new w3 _ _) ((Vals.of_own HO.out).1.old F3) (fun k hk e => by
              simp only [Value.ownBlock, Option.some.injEq] at hk
              have := HLW.out k e
              omega) (by rw [HWS.out]; omega) (HF2.out.trans F3).size
            obtain ⟨a5, c5, w5, hrun, hrow, F5⟩ := hadd
            have G5 := (HF2.out.trans F3).trans' F5 (fun i hi e => by
              obtain ⟨us, g1, _⟩ := HR2.out
              have := ((Vals.of_own g1).2 i e).1
              omega)
            rw [HWS.out] at hrun hrow
            exact ⟨a5, c5, w5, hrun, hrow, G5⟩
          have HADD := Lib.hid hadd
          have hlen : (ws ++ [x]).length = j + 1 := by simp [HWS.out]
          have HLEN := Lib.hid hlen
          have hwl2 : ∀ y ∈ ws ++ [x], y.length ≤ 1099511627776 := fun y hy => by
            rcases List.mem_append.1 hy with h | h
            · exact hwl y h
            · rw [List.mem_singleton.1 h]; exact hx0.2
          have HWL2 := Lib.hid hwl2
          clear hadd hlen hwl2
          by_cases hj0 : j = 0
          · subst hj0
            have hw0 : ws = [] := List.length_eq_zero_iff.1 HWS.out
            have hnx := steps_next HS.out HSP.out (by rw [hw0]; rfl)
            have HNX := Lib.hid hnx
            obtain ⟨a5, c5, w5, hrun, hrow, G5⟩ := HADD.out w2 (Fr.refl _)
            have HRUN := Lib.hid hrun
            have HROW := Lib.hid hrow
            have HG5 := Lib.hid G5
            clear hnx hrun hrow G5
            go_wp2_with (at_builtin; refine wpList_append_run (by rfl) (.tmp 41) (.tmp 43) 136 (by rfl) _ w5 (by exact HRUN.out) ?_)
            go_roundg (l.length - (0 + 1))
            case measure => rw [HG.out]; omega
            case rel =>
              exact ⟨0 + 1, ws ++ [x], rfl, by omega, by go_num, HLEN.out, HWL2.out, HROW.out, HG5.out, HNX.out⟩
          · obtain ⟨us, g1, g2', g3⟩ := HR2.out
            obtain ⟨aR, cR, heR, hcR, hmR, hxR⟩ := (Vals.of_own g1).1
            rw [g2', HWS.out] at heR hcR hxR
            simp only [Value.slice.injEq, true_and] at heR
            obtain ⟨rfl, rfl⟩ := heR
            obtain ⟨bR, oR, rfl, hyR⟩ := hxR (by omega)
            obtain ⟨k, rfl⟩ : ∃ k, j = k + 1 := ⟨j - 1, by omega⟩
            have hws2 := HWS.out
            obtain ⟨uk, huk⟩ : ∃ u, us[k]? = some u := ⟨_, List.getElem?_eq_getElem (by omega)⟩
            obtain ⟨xk, hxk⟩ : ∃ x, ws[k]? = some x := ⟨_, List.getElem?_eq_getElem (by omega)⟩
            have ek := hyR k uk huk
            have hbk := (g3 k uk xk huk hxk).1
            have hlast : ws.getLast? = some xk := by rw [List.getLast?_eq_getElem?, hws2]; exact hxk
            have hsp2 := HSP.out
            rw [hlast] at hsp2
            obtain ⟨ak, ck, rfl, -⟩ := Vals.form hbk
            have t1 : IntKind.i64.wrap (((k + 1 : Nat) : Int) - 1) = (k : Int) := by simp [IntKind.wrap, IntKind.signed, IntKind.bits]; omega
            have t2 : (0 : Int) < ((k + 1 : Nat) : Int) := by omega
            have hck : xk.length ≤ 1099511627776 := hwl xk (List.mem_of_getElem? hxk)
            have HCM := Lib.hid (compare_any _ _ xk x w2 hbk (Vals.of_own HO.out).1 hck hx0.2)
            obtain ⟨cm, hcm⟩ : ∃ cm, cm = cmpS xk x := ⟨_, rfl⟩
            have HCC := Lib.hid hcm
            rw [← hcm] at HCM
            have hr3 : ∀ w3, Fr (fun _ => False) w2 w3 → True := fun _ _ => trivial
            have HLA := Lib.hid hlast
            clear hyR g1 g3 hxR hsp2 hwl hxk huk hlast hr3 hcm
            by_cases hge : 0 ≤ cm
            · have hn : rdnS l = none := by
                rw [HN.out, HS.out, HSP.out, HLA.out]
                simp [← HCC.out, hge]
              have HNN := Lib.hid hn
              clear hn
              go_wp2_with fail
              refine HCM.out.mono ?_
              rintro e w3 ⟨rfl, F3⟩
              go_wp2_with fail
              refine bodyPost_ret (v := .tuple #[.slice none 0 0, .bool false]) (by simp [results, Tryz.results103, go_sem]) rfl ⟨⟨_, by rw [HNN.out]; rfl, fun ls e => by rw [HNN.out] at e; cases e⟩, HF2.out.trans F3⟩
            · have hcond : (match ws.getLast? with | some y => decide (0 ≤ cmpS y x) | none => false) = false := by
                rw [HLA.out]
                simp only [← HCC.out]
                exact decide_eq_false hge
              have HNX := Lib.hid (steps_next HS.out HSP.out hcond)
              clear hcond
              go_wp2_with fail
              refine HCM.out.mono ?_
              rintro e w3 ⟨rfl, F3⟩
              obtain ⟨a5, c5, w5, hrun, hrow, G5⟩ := HADD.out w3 F3
              have HRUN := Lib.hid hrun
              have HROW := Lib.hid hrow
              have HG5 := Lib.hid G5
              clear hrun hrow G5
              go_wp2_with (at_builtin; refine wpList_append_run (by rfl) (.tmp 41) (.tmp 43) 136 (by rfl) _ w5 (by exact HRUN.out) ?_)
              go_roundg (l.length - (k + 1 + 1))
              case measure => rw [HG.out]; omega
              case rel =>
                exact ⟨k + 1 + 1, ws ++ [x], rfl, by omega, by go_num, HLEN.out, HWL2.out, HROW.out, HG5.out, HNX.out⟩
      · have hd : l.drop j = [] := List.drop_eq_nil_of_le (by omega)
        have hres : rdnS l = some ws := by rw [HN.out, HS.out, hd]; simp [stepsS]
        have HRES := Lib.hid hres
        clear hd hres
        go_wp2_with fail
        refine bodyPost_ret (v := .tuple #[.slice au j cu, .bool true]) (by simp [results, Tryz.results103, go_sem]) rfl ⟨⟨_, by rw [HRES.out]; rfl, fun ls e => ?_⟩, HF.out⟩
        rw [HRES.out] at e
        cases e
        exact HR.out
end Go.Proofs.YtacekpdjapgfcaaGreatDoor

namespace Go.Q
open Go Go.RowKit
def nameOk (n : List (List Part)) : Bool := decide (n.length ≤ 64) && n.all (fun r => (rdnS r).isSome)
end Go.Q
namespace Go.Proofs.YtacekpdjapgfcaaGreatDoor
open Go Go.RowKit Go.Q
set_option maxRecDepth 20000 in
set_option maxHeartbeats 2000000 in
theorem right_any (v : Value) (n : List (List Part)) (w : World) (h : NameAt w v n) (hf : ∀ r ∈ n, fewB r) :
    Calls Tryz.prog 53 #[v] w fun e w' => e = .returned (.bool (nameOk n)) ∧ Fr (fun _ => False) w w' := by
  have H := Lib.hid h
  obtain ⟨a, cap, rfl, hc, hm, -⟩ := h
  rcases Nat.lt_or_ge 64 n.length with hl | hl
  · have hn : nameOk n = false := by unfold nameOk; rw [decide_eq_false (by omega), Bool.false_and]
    have HN := Lib.hid hn
    have q1 : (64 : Int) < (n.length : Int) := by omega
    clear hn
    go_enter Tryz.func53, Tryz.ntmps53
    go_wp2_with fail
    go_ret
    exact ⟨by rw [HN.out]; rfl, Fr.refl _⟩
  · have hn : nameOk n = n.all (fun r => (rdnS r).isSome) := by unfold nameOk; rw [decide_eq_true hl, Bool.true_and]
    have HN := Lib.hid hn
    have q1 : ¬ (64 : Int) < (n.length : Int) := by omega
    clear hn
    go_enter Tryz.func53, Tryz.ntmps53
    go_wp2_with fail
    go_loopg [12] n.length (fun g i wr => ∃ j : Nat, g = n.length - j ∧ j ≤ n.length ∧ i = .int .i64 j ∧ (∀ r ∈ n.take j, (rdnS r).isSome = true) ∧ Fr (fun _ => False) w wr)
    case atStart => exact ⟨0, rfl, Nat.zero_le _, rfl, by simp, Fr.refl _⟩
    case round =>
      obtain ⟨j, hg, hj, rfl, he, F⟩ := hrel
      have HG := Lib.hid hg
      have HE := Lib.hid he
      have HF := Lib.hid F
      clear hg he
      by_cases hjl : j < n.length
      · obtain ⟨a0, cap0, he, _, _, hx⟩ := H.out.old F
        simp only [Value.slice.injEq, true_and] at he
        obtain ⟨rfl, rfl⟩ := he
        obtain ⟨b, off, rfl, hy⟩ := hx (by omega)
        obtain ⟨r, hr⟩ : ∃ r, n[j]? = some r := ⟨_, List.getElem?_eq_getElem hjl⟩
        obtain ⟨x, e1, hA⟩ := hy j r hr
        have r1 : (0 : Int) ≤ (j : Int) := by omega
        have r2 : (j : Int) < (n.length : Int) := by omega
        have HW := Lib.hid (wholesRdn_any x r wr hA (hf r (List.mem_of_getElem? hr)))
        have HR := Lib.hid hr
        clear hx hy hr hA F
        obtain ⟨o, ho⟩ : ∃ o, o = (rdnS r).isSome := ⟨_, rfl⟩
        have HO := Lib.hid ho
        rw [← ho] at HW
        clear ho
        go_wp2_with fail
        refine HW.out.mono ?_
        rintro e w2 ⟨⟨v2, rfl, -⟩, F2⟩
        have G2 := HF.out.trans F2
        clear HF F2
        cases o with
        | false =>
          have hn : n.all (fun r => (rdnS r).isSome) = false := by
            rw [List.all_eq_false]
            exact ⟨r, List.mem_of_getElem? HR.out, by rw [← HO.out]; simp⟩
          have HNN := Lib.hid hn
          clear hn
          go_wp2_with fail
          go_ret
          exact ⟨by rw [HN.out, HNN.out]; rfl, G2⟩
        | true =>
          go_wp2_with fail
          go_roundg (n.length - (j + 1))
          case measure => rw [HG.out]; omega
          case rel =>
            refine ⟨j + 1, rfl, by omega, by go_num, fun s hs => ?_, G2⟩
            rw [List.take_add_one, HR.out] at hs
            rcases List.mem_append.1 hs with h | h
            · exact HE.out s h
            · simp at h
              rw [h, ← HO.out]
      · have hall : n.all (fun r => (rdnS r).isSome) = true := by
          rw [List.all_eq_true]
          have := HE.out
          rwa [List.take_of_length_le (by omega)] at this
        have HNN := Lib.hid hall
        clear hall
        go_wp2_with fail
        go_ret
        exact ⟨by rw [HN.out, HNN.out]; rfl, F⟩
end Go.Proofs.YtacekpdjapgfcaaGreatDoor

namespace Go.Q
open Go Go.RowKit
theorem numS_ge : ∀ {l : List UInt8} {i n v k : Nat}, numS i n l = .ok (v, k) → 31 ≤ v
  | [], _, _, _, _, h => by simp [numS] at h
  | x :: t, i, n, v, k, h => by
    simp only [numS] at h
    split at h
    · cases h
    split at h
    · split at h
      · cases h
      · simp only [Except.ok.injEq, Prod.mk.injEq] at h
        omega
    · exact numS_ge h
theorem ofNat_eq {x : UInt8} {n : Nat} (h : n = x.toNat) : UInt8.ofNat n = x := by subst h; simp
theorem tag_back {l : List UInt8} {t : Tag} {k : Nat} (h : readTagS l = .ok (t, k)) (ht : tagGood t) : k = 1 ∧ ∃ r, l = tagByte t :: r := by
  cases l with
  | nil => simp [readTagS] at h
  | cons x r =>
    have hx := x.toNat_lt
    simp only [readTagS] at h
    split at h
    · simp only [Except.ok.injEq, Prod.mk.injEq] at h
      obtain ⟨rfl, rfl⟩ := h
      refine ⟨rfl, r, ?_⟩
      congr 1
      unfold tagByte
      refine (ofNat_eq ?_).symm
      simp only [decide_eq_true_eq]
      split <;> omega
    · split at h
      · cases h
      · rename_i n k' hn
        simp only [Except.ok.injEq, Prod.mk.injEq] at h
        obtain ⟨rfl, -⟩ := h
        have := numS_ge hn
        have h3 := ht.2.2
        simp only at h3
        omega
theorem len_back {l : List UInt8} {v m : Nat} (h : readLenS l = .ok (v, m)) : l.take m = lenBytes v := by
  cases l with
  | nil => simp [readLenS] at h
  | cons x t =>
    have hx := x.toNat_lt
    simp only [readLenS] at h
    split at h
    · simp only [Except.ok.injEq, Prod.mk.injEq] at h
      obtain ⟨rfl, rfl⟩ := h
      rw [lenBytes, if_pos (by assumption), ofNat_eq rfl]
      rfl
    split at h
    · cases h
    rename_i h1 h2
    obtain ⟨n, hn⟩ : ∃ n, n = x.toNat - 128 := ⟨_, rfl⟩
    rw [← hn] at h
    have hn1 : 1 ≤ n ∧ n ≤ 4 := by omega
    have hxn : x = UInt8.ofNat (128 + n) := (ofNat_eq (by omega)).symm
    unfold longS at h
    split at h
    · cases h
    split at h
    · cases h
    split at h
    · cases h
    rename_i h3 h4 h5
    simp only [Except.ok.injEq, Prod.mk.injEq] at h
    obtain ⟨hv, rfl⟩ := h
    rw [List.take_succ_cons]
    match n, t with
    | 0, _ => omega
    | 1, [] => simp at h3
    | 1, a :: t =>
      have ha := a.toNat_lt
      simp only [List.take_succ_cons, List.take_zero, beS, List.foldl_cons, List.foldl_nil] at h4 h5 hv ⊢
      rw [lenBytes, if_neg (by omega), if_pos (by omega), ofNat_eq (x := a) (by omega), hxn]
      rfl
    | 2, [] => simp at h3
    | 2, [a] => simp at h3
    | 2, a :: b :: t =>
      have ha := a.toNat_lt
      have hb := b.toNat_lt
      simp only [List.take_succ_cons, List.take_zero, beS, List.foldl_cons, List.foldl_nil, List.head?_cons, Option.map_some, Option.some.injEq] at h4 h5 hv ⊢
      rw [lenBytes, if_neg (by omega), if_neg (by omega), if_pos (by omega), ofNat_eq (x := a) (by omega), ofNat_eq (x := b) (by omega), hxn]
      rfl
    | 3, [] => simp at h3
    | 3, [a] => simp at h3
    | 3, [a, b] => simp at h3
    | 3, a :: b :: c :: t =>
      have ha := a.toNat_lt
      have hb := b.toNat_lt
      have hc := c.toNat_lt
      simp only [List.take_succ_cons, List.take_zero, beS, List.foldl_cons, List.foldl_nil, List.head?_cons, Option.map_some, Option.some.injEq] at h4 h5 hv ⊢
      rw [lenBytes, if_neg (by omega), if_neg (by omega), if_neg (by omega), if_pos (by omega), ofNat_eq (x := a) (by omega), ofNat_eq (x := b) (by omega), ofNat_eq (x := c) (by omega), hxn]
      rfl
    | 4, [] => simp at h3
    | 4, [a] => simp at h3
    | 4, [a, b] => simp at h3
    | 4, [a, b, c] => simp at h3
    | 4, a :: b :: c :: d :: t =>
      have ha := a.toNat_lt
      have hb := b.toNat_lt
      have hc := c.toNat_lt
      have hd := d.toNat_lt
      simp only [List.take_succ_cons, List.take_zero, beS, List.foldl_cons, List.foldl_nil, List.head?_cons, Option.map_some, Option.some.injEq] at h4 h5 hv ⊢
      rw [lenBytes, if_neg (by omega), if_neg (by omega), if_neg (by omega), if_neg (by omega), ofNat_eq (x := a) (by omega), ofNat_eq (x := b) (by omega), ofNat_eq (x := c) (by omega), ofNat_eq (x := d) (by omega), hxn]
      rfl
    | n + 5, _ => omega
theorem readS_parts {l : List UInt8} {t : Tag} {n k : Nat} (h : readS l = .ok (t, n, k)) : ∃ j m, readTagS l = .ok (t, j) ∧ readLenS (l.drop j) = .ok (n, m) ∧ k = j + m := by
  unfold readS at h
  split at h
  · cases h
  · rename_i t' j hj
    split at h
    · cases h
    · rename_i n' m hm
      simp only [Except.ok.injEq, Prod.mk.injEq] at h
      obtain ⟨rfl, rfl, rfl⟩ := h
      exact ⟨j, m, hj, hm, rfl⟩
theorem readS_back {l : List UInt8} {t : Tag} {n k : Nat} (h : readS l = .ok (t, n, k)) (ht : tagGood t) : l.take k = tagByte t :: lenBytes n ∧ n ≤ 16777216 ∧ k ≤ l.length := by
  have hle := readS_le h
  obtain ⟨j, m, h1, h2, rfl⟩ := readS_parts h
  obtain ⟨rfl, r, rfl⟩ := tag_back h1 ht
  have h3 := len_back h2
  refine ⟨?_, hle.2, hle.1⟩
  rw [Nat.add_comm, List.take_succ_cons, ← h3]
  rfl
theorem take_both {α : Type} (l : List α) (k n : Nat) : l.take (k + n) = l.take k ++ (l.drop k).take n := by
  rw [List.take_add]
theorem open_back {t : Tag} {l y : List UInt8} {k : Nat} (h : openS t l = .ok (y, k)) (ht : tagGood t) : l.take k = wrapS t y ∧ y.length ≤ 16777216 ∧ k ≤ l.length ∧ y.length < k := by
  unfold openS at h
  split at h
  · cases h
  rename_i u n j hr
  split at h
  · cases h
  rename_i hu
  split at h
  · cases h
  rename_i hn
  simp only [Except.ok.injEq, Prod.mk.injEq] at h
  obtain ⟨rfl, rfl⟩ := h
  have hu' : u = t := by simpa using hu
  subst hu'
  obtain ⟨h1, h2, h3⟩ := readS_back hr ht
  have hp := readS_pos hr
  have hl : ((l.drop j).take n).length = n := by rw [List.length_take, List.length_drop]; omega
  refine ⟨?_, by rw [hl]; exact h2, by omega, by rw [hl]; omega⟩
  rw [take_both, h1, wrapS, hl]
  rfl
theorem oneE {l : List UInt8} {e : Int} (h : readS l = .error e) : oneS l = .error e := by unfold oneS; rw [h]
theorem oneEnd {l : List UInt8} {t : Tag} {n k : Nat} (h : readS l = .ok (t, n, k)) (hn : l.length - k < n) : oneS l = .error 3 := by unfold oneS; rw [h]; exact if_pos hn
theorem oneOk {l : List UInt8} {t : Tag} {n k : Nat} (h : readS l = .ok (t, n, k)) (hn : ¬ l.length - k < n) : oneS l = .ok (t, k, k + n) := by unfold oneS; rw [h]; exact if_neg hn
theorem one_alone {y : List UInt8} {t : Tag} {k n : Nat} (h : oneS y = .ok (t, k, n)) (hn : ¬ n < y.length) : singleB y = true := by
  have hp := oneS_pos h
  have h0 : y ≠ [] := by
    intro e
    subst e
    simp [oneS, readS, readTagS] at h
  unfold singleB
  rw [allS_ok h0 h, List.drop_of_length_le (by omega), allS_nil]
  rfl
def numberS : Nat → Nat → List UInt8 → Except Int (Nat × Nat)
  | _, _, [] => .error 6
  | i, n, x :: t => if i = 0 ∧ x.toNat = 128 then .error 6 else if 2147483647 < n * 128 + x.toNat % 128 then .error 2 else if x.toNat < 128 then .ok (n * 128 + x.toNat, i + 1) else numberS (i + 1) (n * 128 + x.toNat % 128) t
def addS (o : List Int) (m : Nat) : List Int := if o = [] then (if m < 80 then [((m / 40 : Nat) : Int), ((m % 40 : Nat) : Int)] else [2, (m : Int) - 80]) else o ++ [(m : Int)]
def oidStS (o : List Int) (i n : Nat) : List UInt8 → Except Int (List Int)
  | [] => if i = 0 then .ok o else .error 6
  | x :: t => if i = 0 ∧ x.toNat = 128 then .error 6 else if 2147483647 < n * 128 + x.toNat % 128 then .error 2 else if x.toNat < 128 then (if o.length = 32 then .error 2 else oidStS (addS o (n * 128 + x.toNat)) 0 0 t) else oidStS o (i + 1) (n * 128 + x.toNat % 128) t
def oidParseS (l : List UInt8) : Except Int (List Int) := if l = [] then .error 6 else oidStS [] 0 0 l
theorem oidSt_num (o : List Int) : ∀ (l : List UInt8) (i n : Nat), (i ≠ 0 ∨ l ≠ []) → oidStS o i n l = match numberS i n l with | .error e => .error e | .ok (m, k) => if o.length = 32 then .error 2 else oidStS (addS o m) 0 0 (l.drop (k - i))
  | [], i, n, h => by
    rcases h with h | h
    · simp [oidStS, numberS, h]
    · exact absurd rfl h
  | x :: t, i, n, _ => by
    simp only [oidStS, numberS]
    split
    · rfl
    split
    · rfl
    split
    · simp only [show i + 1 - i = 1 from by omega, List.drop_succ_cons, List.drop_zero]
    · have ih := oidSt_num o t (i + 1) (n * 128 + x.toNat % 128) (.inl (by omega))
      rw [ih]
      have hpos : ∀ (l : List UInt8) (i n m k : Nat), numberS i n l = .ok (m, k) → i < k := by
        intro l
        induction l with
        | nil => intro i n m k h; simp [numberS] at h
        | cons x t ih =>
          intro i n m k h
          simp only [numberS] at h
          split at h
          · cases h
          split at h
          · cases h
          split at h
          · simp only [Except.ok.injEq, Prod.mk.injEq] at h
            omega
          · have := ih _ _ _ _ h
            omega
      cases hn : numberS (i + 1) (n * 128 + x.toNat % 128) t with
      | error e => rfl
      | ok mk =>
        obtain ⟨m, k⟩ := mk
        have := hpos _ _ _ _ _ hn
        simp only [show k - i = (k - (i + 1)) + 1 from by omega, List.drop_succ_cons]
theorem numberS_back : ∀ (l : List UInt8) (i n m k : Nat), (i = 0 → n = 0) → (i ≠ 0 → n ≠ 0) → numberS i n l = .ok (m, k) → ∃ j, k = i + j ∧ base128 m = (up7 5 n).reverse ++ l.take j ∧ m ≤ 2147483647 ∧ 1 ≤ j ∧ j ≤ l.length
  | [], i, n, m, k, _, _, h => by simp [numberS] at h
  | x :: t, i, n, m, k, h1, h2, h => by
    have hx := x.toNat_lt
    simp only [numberS] at h
    split at h
    · cases h
    rename_i hf
    split at h
    · cases h
    rename_i hm
    split at h
    · rename_i hs
      simp only [Except.ok.injEq, Prod.mk.injEq] at h
      obtain ⟨rfl, rfl⟩ := h
      refine ⟨1, rfl, ?_, by omega, Nat.le_refl _, by simp⟩
      unfold base128
      rw [show (n * 128 + x.toNat) % 128 = x.toNat from by omega, show (n * 128 + x.toNat) / 128 = n from by omega, ofNat_eq rfl]
      simp
    · rename_i hs
      have hn' : n * 128 + x.toNat % 128 ≠ 0 := by
        rcases Nat.eq_zero_or_pos i with h0 | h0
        · have := h1 h0
          omega
        · have := h2 (by omega)
          omega
      obtain ⟨j, rfl, g1, g2, g3, g4⟩ := numberS_back t (i + 1) _ m k (fun h => by omega) (fun _ => hn') h
      refine ⟨j + 1, by omega, ?_, g2, by omega, by simp; omega⟩
      rw [g1]
      have e : up7 5 (n * 128 + x.toNat % 128) = x :: up7 5 n := by
        rw [up7, if_neg hn', show (n * 128 + x.toNat % 128) / 128 = n from by omega, ofNat_eq (x := x) (by omega), up7_ge 4 n (Nat.lt_of_le_of_lt (show n ≤ 16777216 by omega) (by decide))]
      rw [e]
      simp
def partBytes (o : List Int) : List UInt8 := if o = [] then [] else oidBytes o
def goodO (o : List Int) : Prop := o.length ≤ 32 ∧ (o = [] ∨ oidOk o = true)
theorem addS_good {o : List Int} (h : goodO o) (hl : o.length ≠ 32) {m : Nat} (hm : m ≤ 2147483647) : oidOk (addS o m) = true ∧ goodO (addS o m) ∧ partBytes (addS o m) = partBytes o ++ base128 m ∧ addS o m ≠ [] := by
  obtain ⟨h1, h2⟩ := h
  have key : oidOk (addS o m) = true ∧ (addS o m).length ≤ 32 ∧ partBytes (addS o m) = partBytes o ++ base128 m ∧ addS o m ≠ [] := by
    rcases h2 with rfl | h2
    · unfold addS
      rw [if_pos rfl]
      have hp : partBytes [] = [] := rfl
      rw [hp, List.nil_append]
      split
      · refine ⟨?_, by simp, ?_, by simp⟩
        · simp [oidOk, arcOk, twoOk]
          omega
        · unfold partBytes
          rw [if_neg (by simp)]
          simp only [oidBytes, Go.Proofs.YtacekpdjapgfcaaGreatDoor.numsS, List.getD_cons_zero, List.getD_cons_succ, List.drop_succ_cons, List.drop_zero, List.flatMap_cons, List.flatMap_nil, List.append_nil]
          congr 1
          omega
      · refine ⟨?_, by simp, ?_, by simp⟩
        · simp [oidOk, arcOk, twoOk]
          omega
        · unfold partBytes
          rw [if_neg (by simp)]
          simp only [oidBytes, Go.Proofs.YtacekpdjapgfcaaGreatDoor.numsS, List.getD_cons_zero, List.getD_cons_succ, List.drop_succ_cons, List.drop_zero, List.flatMap_cons, List.flatMap_nil, List.append_nil]
          congr 1
          omega
    · have h0 : o ≠ [] := by rintro rfl; simp [oidOk] at h2
      unfold oidOk at h2
      simp only [Bool.and_eq_true, decide_eq_true_eq] at h2
      obtain ⟨⟨⟨g1, g2⟩, g3⟩, g4⟩ := h2
      unfold addS
      rw [if_neg h0]
      obtain ⟨a, b, r, rfl⟩ : ∃ a b r, o = a :: b :: r := by
        match o, g1 with
        | a :: b :: r, _ => exact ⟨a, b, r, rfl⟩
        | [a], g1 => simp at g1
        | [], g1 => simp at g1
      have ha : arcOk (m : Int) = true := by unfold arcOk; exact decide_eq_true (by omega)
      simp only [List.length_cons] at g1 g2 hl h1
      refine ⟨?_, by simp; omega, ?_, by simp⟩
      · unfold oidOk
        simp only [Bool.and_eq_true, decide_eq_true_eq]
        refine ⟨⟨⟨by simp, by simp; omega⟩, ?_⟩, g4⟩
        rw [List.all_append, g3]
        simp [ha]
      · unfold partBytes
        rw [if_neg (by simp), if_neg (by simp)]
        simp only [oidBytes, Go.Proofs.YtacekpdjapgfcaaGreatDoor.numsS, List.cons_append, List.getD_cons_zero, List.getD_cons_succ, List.drop_succ_cons, List.drop_zero, List.flatMap_cons, List.flatMap_append, List.flatMap_nil, List.append_nil, List.append_assoc, Int.toNat_natCast]
  exact ⟨key.1, ⟨key.2.1, .inr key.1⟩, key.2.2⟩
theorem oidSt_back : ∀ (f : Nat) (l : List UInt8) (o r : List Int), l.length ≤ f → goodO o → oidStS o 0 0 l = .ok r → goodO r ∧ partBytes r = partBytes o ++ l
  | 0, l, o, r, hf, ho, h => by
    obtain rfl : l = [] := List.length_eq_zero_iff.1 (by omega)
    simp only [oidStS, ↓reduceIte, Except.ok.injEq] at h
    subst h
    exact ⟨ho, by simp⟩
  | f + 1, [], o, r, hf, ho, h => by
    simp only [oidStS, ↓reduceIte, Except.ok.injEq] at h
    subst h
    exact ⟨ho, by simp⟩
  | f + 1, x :: t, o, r, hf, ho, h => by
    rw [oidSt_num o (x :: t) 0 0 (.inr (by simp))] at h
    cases hn : numberS 0 0 (x :: t) with
    | error e => rw [hn] at h; cases h
    | ok mk =>
      obtain ⟨m, k⟩ := mk
      rw [hn] at h
      simp only at h
      split at h
      · cases h
      rename_i hl
      obtain ⟨j, rfl, g1, g2, g3, g4⟩ := numberS_back _ 0 0 m k (fun _ => rfl) (fun h => absurd rfl h) hn
      rw [up7_zero, List.reverse_nil, List.nil_append] at g1
      rw [Nat.zero_add, Nat.sub_zero] at h
      obtain ⟨-, a2, a3, -⟩ := addS_good ho hl g2
      obtain ⟨b1, b2⟩ := oidSt_back f _ _ r (by rw [List.length_drop]; simp only [List.length_cons] at hf ⊢; omega) a2 h
      refine ⟨b1, ?_⟩
      rw [b2, a3, g1, List.append_assoc, List.take_append_drop]
theorem oidParse_back {l : List UInt8} {o : List Int} (h : oidParseS l = .ok o) : oidOk o = true ∧ oidBytes o = l := by
  unfold oidParseS at h
  split at h
  · cases h
  rename_i h0
  obtain ⟨h1, h2⟩ := oidSt_back l.length l [] o (Nat.le_refl _) ⟨by simp, .inl rfl⟩ h
  have h3 : partBytes [] = [] := rfl
  rw [h3, List.nil_append] at h2
  rcases h1.2 with rfl | h4
  · rw [h3] at h2
    exact absurd h2.symm h0
  · refine ⟨h4, ?_⟩
    rw [← h2]
    unfold partBytes
    rw [if_neg (by rintro rfl; simp [oidOk] at h4)]
def oidReadS (l : List UInt8) : Except Int (List Int × Nat) :=
  match openS (tagOf 6) l with
  | .error e => .error e
  | .ok (x, k) => match oidParseS x with
    | .error e => .error e
    | .ok o => .ok (o, k)
theorem tag6 : tagGood (tagOf 6) := ⟨by decide, by decide⟩
theorem tag16 : tagGood (tagOf 16) := ⟨by decide, by decide⟩
theorem tag17 : tagGood (tagOf 17) := ⟨by decide, by decide⟩
theorem oidRead_back {l : List UInt8} {o : List Int} {k : Nat} (h : oidReadS l = .ok (o, k)) : oidOk o = true ∧ l.take k = oidWhole o ∧ k ≤ l.length ∧ 1 ≤ k := by
  unfold oidReadS at h
  split at h
  · cases h
  rename_i x k' hx
  split at h
  · cases h
  rename_i o' ho
  simp only [Except.ok.injEq, Prod.mk.injEq] at h
  obtain ⟨rfl, rfl⟩ := h
  obtain ⟨h1, h2, h3, h4⟩ := open_back hx tag6
  obtain ⟨g1, g2⟩ := oidParse_back ho
  refine ⟨g1, ?_, h3, by omega⟩
  rw [h1, oidWhole, g2]
def partReadS (l : List UInt8) : Except Int (Part × Nat) :=
  match openS (tagOf 16) l with
  | .error e => .error e
  | .ok (y, m) => match oidReadS y with
    | .error e => .error e
    | .ok (o, q) => match oneS (y.drop q) with
      | .error e => .error e
      | .ok (_, _, n) => if n < y.length - q then .error 7 else .ok (⟨o, y.drop q⟩, m)
theorem partRead_back {l : List UInt8} {p : Part} {m : Nat} (h : partReadS l = .ok (p, m)) : attrS p.o p.b = some (l.take m) ∧ m ≤ l.length ∧ 1 ≤ m ∧ p.b.length ≤ l.length := by
  unfold partReadS at h
  split at h
  · cases h
  rename_i y m' hy
  split at h
  · cases h
  rename_i o q ho
  split at h
  · cases h
  rename_i t k n hn
  split at h
  · cases h
  rename_i hne
  simp only [Except.ok.injEq, Prod.mk.injEq] at h
  obtain ⟨rfl, rfl⟩ := h
  obtain ⟨h1, h2, h3, h4⟩ := open_back hy tag16
  obtain ⟨g1, g2, g3, g4⟩ := oidRead_back ho
  have hs := one_alone hn (by rw [List.length_drop]; exact hne)
  refine ⟨?_, h3, by omega, by simp only [List.length_drop]; omega⟩
  unfold attrS
  rw [g1, hs, if_pos (show (true && true) = true from rfl), h1, ← g2, List.take_append_drop]
def rdnGoS : Nat → List Part → List UInt8 → List UInt8 → Except Int (List Part)
  | _, out, _, [] => if out.length = 0 then .error 6 else .ok out
  | 0, _, _, _ :: _ => .error 3
  | f + 1, out, last, x :: t =>
    if out.length = 16 then .error 2 else
    match partReadS (x :: t) with
    | .error e => .error e
    | .ok (p, m) => if out.length ≠ 0 ∧ cmpS last ((x :: t).take m) = 0 then .error 10 else if out.length ≠ 0 ∧ 0 < cmpS last ((x :: t).take m) then .error 9 else rdnGoS f (out ++ [p]) ((x :: t).take m) ((x :: t).drop m)
theorem rdnGo_fuel : ∀ (f g : Nat) (out : List Part) (last l : List UInt8), l.length ≤ f → l.length ≤ g → rdnGoS f out last l = rdnGoS g out last l := by
  intro f
  induction f with
  | zero =>
    intro g out last l h _
    obtain rfl : l = [] := List.length_eq_zero_iff.1 (by omega)
    cases g <;> rfl
  | succ f ih =>
    intro g out last l h h2
    cases l with
    | nil => cases g <;> rfl
    | cons x t =>
      simp only [List.length_cons] at h h2
      obtain ⟨g, rfl⟩ : ∃ g', g = g' + 1 := ⟨g - 1, by omega⟩
      simp only [rdnGoS]
      cases hp : partReadS (x :: t) with
      | error e => rfl
      | ok v =>
        obtain ⟨p, m⟩ := v
        have hb := partRead_back hp
        have hl : ((x :: t).drop m).length ≤ t.length := by simp only [List.length_drop, List.length_cons]; omega
        simp only
        rw [ih g _ _ _ (by omega) (by omega)]
def rdnSt (out : List Part) (last l : List UInt8) : Except Int (List Part) := rdnGoS l.length out last l
theorem rdnSt_end (out : List Part) (last : List UInt8) : rdnSt out last [] = if out.length = 0 then .error 6 else .ok out := rfl
theorem rdnSt_full {out : List Part} {last l : List UInt8} (h0 : l ≠ []) (h : out.length = 16) : rdnSt out last l = .error 2 := by
  cases l with
  | nil => exact absurd rfl h0
  | cons x t => simp only [rdnSt, List.length_cons, rdnGoS, if_pos h]
theorem rdnSt_err {out : List Part} {last l : List UInt8} {e : Int} (h0 : l ≠ []) (h : out.length ≠ 16) (hp : partReadS l = .error e) : rdnSt out last l = .error e := by
  cases l with
  | nil => exact absurd rfl h0
  | cons x t => simp only [rdnSt, List.length_cons, rdnGoS, if_neg h, hp]
theorem rdnSt_ok {out : List Part} {last l : List UInt8} {p : Part} {m : Nat} (h : out.length ≠ 16) (hp : partReadS l = .ok (p, m)) : rdnSt out last l = if out.length ≠ 0 ∧ cmpS last (l.take m) = 0 then .error 10 else if out.length ≠ 0 ∧ 0 < cmpS last (l.take m) then .error 9 else rdnSt (out ++ [p]) (l.take m) (l.drop m) := by
  have hb := partRead_back hp
  cases l with
  | nil => simp at hb; omega
  | cons x t =>
    simp only [rdnSt, List.length_cons, rdnGoS, if_neg h, hp]
    rw [rdnGo_fuel t.length ((x :: t).drop m).length _ _ _ (by simp only [List.length_drop, List.length_cons]; omega) (Nat.le_refl _)]
def rdnReadS (l : List UInt8) : Except Int (List Part × Nat) :=
  match openS (tagOf 17) l with
  | .error e => .error e
  | .ok (x, k) => match rdnSt [] [] x with
    | .error e => .error e
    | .ok r => .ok (r, k)
theorem rdnRead_len {l : List UInt8} {r : List Part} {k : Nat} (h : rdnReadS l = .ok (r, k)) : k ≤ l.length ∧ 1 ≤ k := by
  unfold rdnReadS at h
  split at h
  · cases h
  rename_i x k' hx
  split at h
  · cases h
  simp only [Except.ok.injEq, Prod.mk.injEq] at h
  obtain ⟨-, rfl⟩ := h
  obtain ⟨-, -, h3, h4⟩ := open_back hx tag17
  exact ⟨h3, by omega⟩
def nameGoS : Nat → List (List Part) → List UInt8 → Except Int (List (List Part))
  | _, out, [] => .ok out
  | 0, _, _ :: _ => .error 3
  | f + 1, out, x :: t =>
    if out.length = 64 then .error 2 else
    match rdnReadS (x :: t) with
    | .error e => .error e
    | .ok (r, k) => nameGoS f (out ++ [r]) ((x :: t).drop k)
theorem nameGo_fuel : ∀ (f g : Nat) (out : List (List Part)) (l : List UInt8), l.length ≤ f → l.length ≤ g → nameGoS f out l = nameGoS g out l := by
  intro f
  induction f with
  | zero =>
    intro g out l h _
    obtain rfl : l = [] := List.length_eq_zero_iff.1 (by omega)
    cases g <;> rfl
  | succ f ih =>
    intro g out l h h2
    cases l with
    | nil => cases g <;> rfl
    | cons x t =>
      simp only [List.length_cons] at h h2
      obtain ⟨g, rfl⟩ : ∃ g', g = g' + 1 := ⟨g - 1, by omega⟩
      simp only [nameGoS]
      cases hp : rdnReadS (x :: t) with
      | error e => rfl
      | ok v =>
        obtain ⟨p, m⟩ := v
        have hb := rdnRead_len hp
        have hl : ((x :: t).drop m).length ≤ t.length := by simp only [List.length_drop, List.length_cons]; omega
        simp only
        rw [ih g _ _ (by omega) (by omega)]
def nameSt (out : List (List Part)) (l : List UInt8) : Except Int (List (List Part)) := nameGoS l.length out l
theorem nameSt_full {out : List (List Part)} {l : List UInt8} (h0 : l ≠ []) (h : out.length = 64) : nameSt out l = .error 2 := by
  cases l with
  | nil => exact absurd rfl h0
  | cons x t => simp only [nameSt, List.length_cons, nameGoS, if_pos h]
theorem nameSt_err {out : List (List Part)} {l : List UInt8} {e : Int} (h0 : l ≠ []) (h : out.length ≠ 64) (hp : rdnReadS l = .error e) : nameSt out l = .error e := by
  cases l with
  | nil => exact absurd rfl h0
  | cons x t => simp only [nameSt, List.length_cons, nameGoS, if_neg h, hp]
theorem nameSt_ok {out : List (List Part)} {l : List UInt8} {r : List Part} {k : Nat} (h : out.length ≠ 64) (hp : rdnReadS l = .ok (r, k)) : nameSt out l = nameSt (out ++ [r]) (l.drop k) := by
  have hb := rdnRead_len hp
  cases l with
  | nil => simp at hb; omega
  | cons x t =>
    simp only [nameSt, List.length_cons, nameGoS, if_neg h, hp]
    exact nameGo_fuel t.length ((x :: t).drop k).length _ _ (by simp only [List.length_drop, List.length_cons]; omega) (Nat.le_refl _)
def nameReadS (l : List UInt8) : Except Int (List (List Part) × Nat) :=
  match openS (tagOf 16) l with
  | .error e => .error e
  | .ok (x, k) => match nameSt [] x with
    | .error e => .error e
    | .ok n => .ok (n, k)
def nameParseS (l : List UInt8) : Except Int (List (List Part)) :=
  match nameReadS l with
  | .error e => .error e
  | .ok (n, k) => if k < l.length then .error 7 else .ok n
end Go.Q

namespace Go.Q
open Go Go.RowKit
abbrev str (l : List UInt8) : Value := .string ⟨l.toArray⟩
theorem ba_cat (a b : List UInt8) : (ByteArray.mk a.toArray ++ ByteArray.mk b.toArray) = ByteArray.mk (a ++ b).toArray := by
  apply ByteArray.ext
  rw [ByteArray.data_append]
  simp
end Go.Q
namespace Go.Proofs.YtacekpdjapgfcaaGreatDoor
open Go Go.RowKit Go.Q
theorem str_of {w : World} {v : Value} {l : List UInt8} (h : Bytes w v l) : (Go.convert 23 9 v).run Tryz.prog w = .ok (str l) w := by
  obtain ⟨a, cap, rfl, hc, hm, hx⟩ := h.form
  rcases Nat.eq_zero_or_pos l.length with h0 | h0
  · obtain rfl : l = [] := List.length_eq_zero_iff.1 h0
    exact run_convert_bytes_zero w 23 5 Tryz.underlying23 Tryz.underlying5 a cap 9 Tryz.underlying9
  · obtain ⟨b, o, rfl, hy⟩ := hx h0
    exact run_convert_bytes_back w 23 9 5 _ cap l Tryz.underlying23 Tryz.underlying5 Tryz.underlying9 (fun j hj => by
      rw [show (⟨b, o, none⟩ : Addr).add j = ⟨b, o + j, none⟩ from by unfold Addr.add; split <;> simp_all]
      exact hy j _ (List.getElem?_eq_getElem hj))
theorem bytes_of_str (w : World) (l : List UInt8) (hl : l.length ≤ 1099511627776) : ∃ c w', (Go.convert 9 23 (str l)).run Tryz.prog w = .ok (.slice (some ⟨w.heap.size, 0, none⟩) l.length c) w' ∧ Bytes w' (.slice (some ⟨w.heap.size, 0, none⟩) l.length c) l ∧ Fr (fun _ => False) w w' ∧ w'.heap.size = w.heap.size + 1 := by
  have hr := Lib.run_convert_string_bytes (P := Tryz.prog) w 9 23 5 ⟨l.toArray⟩ Tryz.underlying9 Tryz.underlying23 Tryz.underlying5
  have hs : (ByteArray.mk l.toArray).size = l.length := by simp [ByteArray.size]
  rw [hs] at hr
  refine ⟨_, _, hr, ?_, ⟨rfl, rfl, rfl, by rw [Lib.bytesWorld_size]; omega, fun k hk _ => Lib.bytesWorld_at_old _ _ _ _ hk⟩, Lib.bytesWorld_size _ _ _⟩
  refine ⟨_, _, by rw [byteCells_len], ?_, ?_, fun _ => ⟨w.heap.size, 0, rfl, fun i u hu => ?_⟩⟩
  · rw [byteCells_len]; exact grownCap_ge _ _ _ _
  · exact grownCap_le_maxLen _ _ _ _ (by unfold maxLen; omega)
  · rw [byteCells_get] at hu
    cases hli : l[i]? with
    | none => rw [hli] at hu; cases hu
    | some x =>
      rw [hli] at hu
      simp only [Option.map_some, Option.some.injEq] at hu
      subst hu
      have hi := (List.getElem?_eq_some_iff.1 hli).1
      rw [Nat.zero_add, Lib.bytesWorld_cell _ _ _ _ (by rw [hs]; exact hi)]
      simp [List.getD_eq_getElem?_getD, hli]
end Go.Proofs.YtacekpdjapgfcaaGreatDoor

namespace Go.Q
open Go Go.RowKit
def amongB (n : Int) (l : List UInt8) : Bool := l.any fun x => (x.toNat : Int) == n
theorem among_take {n : Int} {l : List UInt8} {j : Nat} {x : UInt8} (h : l[j]? = some x) : amongB n (l.take (j + 1)) = (amongB n (l.take j) || ((x.toNat : Int) == n)) := by
  unfold amongB
  rw [List.take_add_one, h]
  simp
theorem among_mem {n : Int} {l : List UInt8} {j : Nat} {x : UInt8} (h : l[j]? = some x) (hx : ((x.toNat : Int) == n) = true) : amongB n l = true :=
  List.any_eq_true.2 ⟨x, List.mem_of_getElem? h, hx⟩
abbrev printL : List UInt8 := [97, 98, 99, 100, 101, 102, 103, 104, 105, 106, 107, 108, 109, 110, 111, 112, 113, 114, 115, 116, 117, 118, 119, 120, 121, 122, 65, 66, 67, 68, 69, 70, 71, 72, 73, 74, 75, 76, 77, 78, 79, 80, 81, 82, 83, 84, 85, 86, 87, 88, 89, 90, 48, 49, 50, 51, 52, 53, 54, 55, 56, 57, 32, 39, 40, 41, 43, 44, 45, 46, 47, 58, 61, 63]
set_option maxRecDepth 100000 in
theorem among_small : ∀ m : Fin 256, amongB (m.val : Int) printL = printables.contains (UInt8.ofNat m.val) := by decide +kernel
theorem among_may (n : Int) : amongB n printL = mayS 19 n := by
  simp only [mayS, show ¬ ((19 : Int) = 12) from by decide, if_false, if_true]
  by_cases h : 0 ≤ n ∧ n < 256
  · obtain ⟨m, rfl⟩ : ∃ m : Nat, n = m := ⟨n.toNat, by omega⟩
    have := among_small ⟨m, by omega⟩
    simp only at this
    rw [this, decide_eq_true h, Bool.true_and, Int.toNat_natCast]
  · rw [decide_eq_false h, Bool.false_and, amongB, List.any_eq_false]
    intro x _
    have := x.toNat_lt
    simp only [beq_iff_eq]
    omega
end Go.Q
namespace Go.Proofs.YtacekpdjapgfcaaGreatDoor
open Go Go.RowKit Go.Q
set_option maxRecDepth 20000 in
theorem r06Kind_any (k : Int) (w : World) :
    Calls Tryz.prog 269 #[.int .i64 k] w fun e w' => e = .returned (.bool (Go.Q.kindOk k)) ∧ w = w' := by
  by_cases h1 : k = 12
  · subst h1
    go_enter Tryz.func269, Tryz.ntmps269
    go_wp2_with fail
    go_ret
    exact ⟨rfl, rfl⟩
  by_cases h2 : k = 19
  · subst h2
    go_enter Tryz.func269, Tryz.ntmps269
    go_wp2_with fail
    go_ret
    exact ⟨rfl, rfl⟩
  by_cases h3 : k = 20
  · subst h3
    go_enter Tryz.func269, Tryz.ntmps269
    go_wp2_with fail
    go_ret
    exact ⟨rfl, rfl⟩
  by_cases h4 : k = 22
  · subst h4
    go_enter Tryz.func269, Tryz.ntmps269
    go_wp2_with fail
    go_ret
    exact ⟨rfl, rfl⟩
  by_cases h5 : k = 26
  · subst h5
    go_enter Tryz.func269, Tryz.ntmps269
    go_wp2_with fail
    go_ret
    exact ⟨rfl, rfl⟩
  have hk : Go.Q.kindOk k = (k == 30) := by
    unfold Go.Q.kindOk
    rw [Bool.eq_iff_iff, decide_eq_true_eq, beq_iff_eq]
    omega
  have HK := Lib.hid hk
  have q1 : (k == 12) = false := beq_eq_false_iff_ne.2 h1
  have q2 : (k == 19) = false := beq_eq_false_iff_ne.2 h2
  have q3 : (k == 20) = false := beq_eq_false_iff_ne.2 h3
  have q4 : (k == 22) = false := beq_eq_false_iff_ne.2 h4
  have q5 : (k == 26) = false := beq_eq_false_iff_ne.2 h5
  clear hk
  go_enter Tryz.func269, Tryz.ntmps269
  go_wp2_with fail
  go_ret
  exact ⟨by rw [HK.out]; rfl, rfl⟩
set_option maxRecDepth 20000 in
theorem r06among_any (n : Int) (l : List UInt8) (w : World) (hl : l.length ≤ 1099511627776) :
    Calls Tryz.prog 307 #[.int .i64 n, str l] w fun e w' => e = .returned (.bool (amongB n l)) ∧ w = w' := by
  have hsz : (ByteArray.mk l.toArray).size = l.length := by simp [ByteArray.size]
  go_enter Tryz.func307, Tryz.ntmps307
  go_wp2_with fail
  go_loopg [5] l.length (fun g i wr => ∃ j : Nat, g = l.length - j ∧ j ≤ l.length ∧ i = .int .i64 j ∧ amongB n (l.take j) = false ∧ wr = w)
  case atStart => exact ⟨0, rfl, Nat.zero_le _, rfl, rfl, rfl⟩
  case round =>
    obtain ⟨j, hg, hj, rfl, hall, rfl⟩ := hrel
    have HG := Lib.hid hg
    have HA := Lib.hid hall
    clear hg hall
    by_cases hjl : j < l.length
    · obtain ⟨x, hxj⟩ : ∃ x, l[j]? = some x := ⟨_, List.getElem?_eq_getElem hjl⟩
      have hix : ∀ w, (Instr.index 9 (str l) (.int .i64 j)).run Tryz.prog w = .ok (.int .u8 x.toNat) w := fun w => by
        rw [run_index_string w 9 _ .i64 j Tryz.underlying9, dif_pos ⟨by omega, by rw [hsz]; omega⟩]
        obtain ⟨h, rfl⟩ := List.getElem?_eq_some_iff.1 hxj
        simp [ByteArray.getElem_eq_getElem_data]
      have q2 : (j : Int) < (l.length : Int) := by omega
      have HT := Lib.hid (among_take (n := n) hxj)
      have HM := Lib.hid (fun h => among_mem (n := n) hxj h)
      clear hxj
      have hy0 : (0 : Int) ≤ (x.toNat : Int) := by omega
      have hy1 : (x.toNat : Int) < 256 := by have := x.toNat_lt; omega
      have hyw : wrap64 (x.toNat : Int) = (x.toNat : Int) := by unfold wrap64; omega
      generalize (x.toNat : Int) = y at *
      rcases Bool.eq_false_or_eq_true (y == n) with h | h
      · go_wp2_with fail
        go_ret
        exact ⟨by rw [HM.out h]; rfl, rfl⟩
      · go_wp2_with fail
        go_roundg (l.length - (j + 1))
        case measure => rw [HG.out]; omega
        case rel => exact ⟨j + 1, rfl, by omega, by go_num, by rw [HT.out, HA.out, h]; rfl, rfl⟩
    · have q2 : ¬ (j : Int) < (l.length : Int) := by omega
      have hA : amongB n l = false := by
        have := HA.out
        rwa [List.take_of_length_le (by omega)] at this
      have HAA := Lib.hid hA
      clear hA
      go_wp2_with fail
      go_ret
      exact ⟨by rw [HAA.out]; rfl, rfl⟩
set_option maxRecDepth 20000 in
theorem r06May_any (k n : Int) (w : World) :
    Calls Tryz.prog 271 #[.int .i64 k, .int .i64 n] w fun e w' => e = .returned (.bool (mayS k n)) ∧ w = w' := by
  by_cases h1 : n < 0
  · have hm : mayS k n = false := by
      unfold mayS
      rw [decide_eq_false (by omega : ¬ (0 ≤ n ∧ n ≤ 1114111)), decide_eq_false (by omega : ¬ (0 ≤ n ∧ n < 256)), decide_eq_false (by omega : ¬ (0 ≤ n ∧ n ≤ 255)), decide_eq_false (by omega : ¬ (0 ≤ n ∧ n < 128)), decide_eq_false (by omega : ¬ (32 ≤ n ∧ n ≤ 126)), decide_eq_false (by omega : ¬ (0 ≤ n ∧ n ≤ 65535))]
      simp
    have HM := Lib.hid hm
    have q : decide (n < 0) = true := decide_eq_true h1
    clear hm
    go_enter Tryz.func271, Tryz.ntmps271
    go_wp2_with fail
    go_ret
    exact ⟨by rw [HM.out]; rfl, rfl⟩
  have q1 : decide (n < 0) = false := decide_eq_false h1
  by_cases h2 : (1114111 : Int) < n
  · have hm : mayS k n = false := by
      unfold mayS
      rw [decide_eq_false (by omega : ¬ (0 ≤ n ∧ n ≤ 1114111)), decide_eq_false (by omega : ¬ (0 ≤ n ∧ n < 256)), decide_eq_false (by omega : ¬ (0 ≤ n ∧ n ≤ 255)), decide_eq_false (by omega : ¬ (0 ≤ n ∧ n < 128)), decide_eq_false (by omega : ¬ (32 ≤ n ∧ n ≤ 126)), decide_eq_false (by omega : ¬ (0 ≤ n ∧ n ≤ 65535))]
      simp
    have HM := Lib.hid hm
    have q : decide ((1114111 : Int) < n) = true := decide_eq_true h2
    clear hm
    go_enter Tryz.func271, Tryz.ntmps271
    go_wp2_with fail
    go_ret
    exact ⟨by rw [HM.out]; rfl, rfl⟩
  have q2 : decide ((1114111 : Int) < n) = false := decide_eq_false h2
  by_cases h3 : 55296 ≤ n ∧ n ≤ 57343
  · have hm : mayS k n = false := by
      unfold mayS surr
      rw [decide_eq_true h3, decide_eq_false (by omega : ¬ (0 ≤ n ∧ n < 256)), decide_eq_false (by omega : ¬ (0 ≤ n ∧ n ≤ 255)), decide_eq_false (by omega : ¬ (0 ≤ n ∧ n < 128)), decide_eq_false (by omega : ¬ (32 ≤ n ∧ n ≤ 126))]
      simp
    have HM := Lib.hid hm
    have q3 : decide ((55296 : Int) ≤ n) = true := decide_eq_true h3.1
    have q4 : decide (n ≤ 57343) = true := decide_eq_true h3.2
    clear hm
    go_enter Tryz.func271, Tryz.ntmps271
    go_wp2_with fail
    go_ret
    exact ⟨by rw [HM.out]; rfl, rfl⟩
  have hs : surr n = false := decide_eq_false h3
  have hN : (decide ((55296 : Int) ≤ n) = false) ∨ (decide ((55296 : Int) ≤ n) = true ∧ decide (n ≤ 57343) = false) := by
    by_cases h : (55296 : Int) ≤ n
    · exact .inr ⟨decide_eq_true h, decide_eq_false (by omega)⟩
    · exact .inl (decide_eq_false h)
  by_cases k12 : k = 12
  · subst k12
    have hm : mayS 12 n = true := by
      simp only [mayS, if_true, hs]
      rw [decide_eq_true (by omega)]
      rfl
    have HM := Lib.hid hm
    clear hm hs
    rcases hN with q3 | ⟨q3, q4⟩
    all_goals
      go_enter Tryz.func271, Tryz.ntmps271
      go_wp2_with fail
      go_ret
      exact ⟨by rw [HM.out]; rfl, rfl⟩
  have p1 : (k == 12) = false := beq_eq_false_iff_ne.2 k12
  by_cases k19 : k = 19
  · subst k19
    have H := Lib.hid (r06among_any n printL)
    have hm := among_may n
    have HM := Lib.hid hm
    clear hm hs
    rcases hN with q3 | ⟨q3, q4⟩
    all_goals
      go_enter Tryz.func271, Tryz.ntmps271
      go_wp2_with fail
      refine (H.out _ (by decide)).mono ?_
      rintro e w' ⟨rfl, rfl⟩
      go_wp2_with fail
      go_ret
      exact ⟨by rw [← HM.out]; rfl, rfl⟩
  have p2 : (k == 19) = false := beq_eq_false_iff_ne.2 k19
  by_cases k20 : k = 20
  · subst k20
    have hm : mayS 20 n = decide (n < 256) := by
      simp only [mayS, show ¬ ((20 : Int) = 12) from by decide, show ¬ ((20 : Int) = 19) from by decide, if_false, if_true]
      rw [decide_eq_decide]
      omega
    have HM := Lib.hid hm
    clear hm hs
    rcases hN with q3 | ⟨q3, q4⟩
    all_goals
      go_enter Tryz.func271, Tryz.ntmps271
      go_wp2_with fail
      go_ret
      exact ⟨by rw [HM.out]; rfl, rfl⟩
  have p3 : (k == 20) = false := beq_eq_false_iff_ne.2 k20
  by_cases k22 : k = 22
  · subst k22
    have hm : mayS 22 n = decide (n < 128) := by
      simp only [mayS, show ¬ ((22 : Int) = 12) from by decide, show ¬ ((22 : Int) = 19) from by decide, show ¬ ((22 : Int) = 20) from by decide, if_false, if_true]
      rw [decide_eq_decide]
      omega
    have HM := Lib.hid hm
    clear hm hs
    rcases hN with q3 | ⟨q3, q4⟩
    all_goals
      go_enter Tryz.func271, Tryz.ntmps271
      go_wp2_with fail
      go_ret
      exact ⟨by rw [HM.out]; rfl, rfl⟩
  have p4 : (k == 22) = false := beq_eq_false_iff_ne.2 k22
  by_cases k26 : k = 26
  · subst k26
    have hm : mayS 26 n = (decide ((31 : Int) < n) && decide (n < 127)) := by
      simp only [mayS, show ¬ ((26 : Int) = 12) from by decide, show ¬ ((26 : Int) = 19) from by decide, show ¬ ((26 : Int) = 20) from by decide, show ¬ ((26 : Int) = 22) from by decide, if_false, if_true]
      rw [← Bool.decide_and, decide_eq_decide]
      omega
    have HM := Lib.hid hm
    clear hm hs
    by_cases h31 : (31 : Int) < n
    · have p31 : decide ((31 : Int) < n) = true := decide_eq_true h31
      rcases hN with q3 | ⟨q3, q4⟩
      all_goals
        go_enter Tryz.func271, Tryz.ntmps271
        go_wp2_with fail
        go_ret
        exact ⟨by rw [HM.out, p31]; rfl, rfl⟩
    · have p31 : decide ((31 : Int) < n) = false := decide_eq_false h31
      rcases hN with q3 | ⟨q3, q4⟩
      all_goals
        go_enter Tryz.func271, Tryz.ntmps271
        go_wp2_with fail
        go_ret
        exact ⟨by rw [HM.out, p31]; rfl, rfl⟩
  have p5 : (k == 26) = false := beq_eq_false_iff_ne.2 k26
  by_cases k30 : k = 30
  · subst k30
    have hm : mayS 30 n = decide (n < 65536) := by
      simp only [mayS, show ¬ ((30 : Int) = 12) from by decide, show ¬ ((30 : Int) = 19) from by decide, show ¬ ((30 : Int) = 20) from by decide, show ¬ ((30 : Int) = 22) from by decide, show ¬ ((30 : Int) = 26) from by decide, if_false, if_true, hs]
      rw [Bool.not_false, Bool.and_true, decide_eq_decide]
      omega
    have HM := Lib.hid hm
    clear hm hs
    rcases hN with q3 | ⟨q3, q4⟩
    all_goals
      go_enter Tryz.func271, Tryz.ntmps271
      go_wp2_with fail
      go_ret
      exact ⟨by rw [HM.out]; rfl, rfl⟩
  have p6 : (k == 30) = false := beq_eq_false_iff_ne.2 k30
  have hm : mayS k n = false := by
    simp only [mayS, if_neg k12, if_neg k19, if_neg k20, if_neg k22, if_neg k26, if_neg k30]
  have HM := Lib.hid hm
  clear hm hs
  rcases hN with q3 | ⟨q3, q4⟩
  all_goals
    go_enter Tryz.func271, Tryz.ntmps271
    go_wp2_with fail
    go_ret
    exact ⟨by rw [HM.out]; rfl, rfl⟩
end Go.Proofs.YtacekpdjapgfcaaGreatDoor

namespace Go.Q
open Go Go.RowKit
abbrev natInts (ns : List Nat) : List Int := ns.map fun (n : Nat) => (n : Int)
theorem enc4_le (n : Nat) : (enc n).length ≤ 4 := by unfold enc; split; simp; split; simp; split <;> simp
theorem encAll_le : ∀ (l : List Nat), (encAll l).length ≤ 4 * l.length
  | [] => by simp [encAll]
  | n :: l => by
    have := encAll_le l
    have := enc4_le n
    simp only [encAll, List.flatMap_cons, List.length_append, List.length_cons] at *
    omega
theorem encAll_take {ns : List Nat} {j n : Nat} (h : ns[j]? = some n) : encAll (ns.take (j + 1)) = encAll (ns.take j) ++ enc n := by
  unfold encAll
  rw [List.take_add_one, h]
  simp
theorem encAll_take_le (ns : List Nat) (j : Nat) : (encAll (ns.take j)).length ≤ 4 * ns.length := by
  have := encAll_le (ns.take j)
  rw [List.length_take] at this
  omega
end Go.Q
namespace Go.Proofs.YtacekpdjapgfcaaGreatDoor
open Go Go.RowKit Go.Q
theorem add_bytes {w : World} {base n : Nat} {v : Value} {xs : List UInt8} (hown : w.ownsRow base 5 1 v n (Lib.byteCells xs)) (l : List UInt8) (cs : Array Value) (hcs : (Lib.byteCells l).toArray = cs) (k : Nat) (hk : l.length = k) (hsz : n + k ≤ 1099511627776) (hb : base ≤ w.heap.size) :
    ∃ a c w', (Builtin.append_ #[23, 23] 23 #[v, .slice (some ⟨w.heap.size, 0, none⟩) k k]).run Tryz.prog (w.alloc (.cells cs 5)) = .ok (.slice a (n + k) c) w' ∧ w'.ownsRow base 5 1 (.slice a (n + k) c) (n + k) (Lib.byteCells (xs ++ l)) ∧ Fr (fun k => v.ownBlock = some k) w w' := by
  subst hcs hk
  have BX := Blk.new w 5 (Lib.byteCells l).toArray
  have F1 : Fr (fun _ => False) w (w.alloc (.cells (Lib.byteCells l).toArray 5)) := (Fr.refl w).alloc _
  have hsrc : Bytes (w.alloc (.cells (Lib.byteCells l).toArray 5)) (.slice (some ⟨w.heap.size, 0, none⟩) l.length l.length) l := by
    have h := Vals.of_block BX (by unfold maxLen; simp [byteCells_len]; omega)
    simpa [byteCells_len] using h
  obtain ⟨v', w2, hrun, h1, F2, _⟩ := append_bytes (ownsRow_fr hown F1 (fun _ _ h => h)) (some ⟨w.heap.size, 0, none⟩) l.length l.length l hsrc (by omega) (Nat.le_trans hb F1.size)
  obtain ⟨a, m', c, rfl, rfl⟩ := own_shape h1
  exact ⟨a, c, w2, hrun, h1, (F1.mono (T := fun k => v.ownBlock = some k) (fun _ _ h => h.elim)).trans F2⟩
set_option maxRecDepth 20000 in
set_option maxHeartbeats 2000000 in
theorem r06Utf8_any (v : Value) (ns : List Nat) (w : World) (h : Ints w v (natInts ns)) (hn : ∀ n ∈ ns, n < 1114112) (hlim : ns.length ≤ 100000000) :
    Calls Tryz.prog 235 #[v] w fun e w' => ∃ v', e = .returned v' ∧ w'.ownsRow w.heap.size 5 1 v' (encAll ns).length (Lib.byteCells (encAll ns)) ∧ Fr (fun _ => False) w w' := by
  obtain ⟨a, cap, rfl, hc, hm, hx⟩ := h.form
  rw [List.length_map] at hc hx ⊢
  have HX := Lib.hid hx
  have HN := Lib.hid hn
  clear h hx hn hc hm
  go_enter Tryz.func235, Tryz.ntmps235
  go_wp2_with fail
  go_loopg [3, 4] ns.length (fun g b i wr => ∃ (j : Nat) (a6 : Option Addr) (n6 c6 : Nat), g = ns.length - j ∧ j ≤ ns.length ∧ b = .slice a6 n6 c6 ∧ i = .int .i64 j ∧ wr.ownsRow w.heap.size 5 1 (.slice a6 n6 c6) (encAll (ns.take j)).length (Lib.byteCells (encAll (ns.take j))) ∧ Fr (fun _ => False) w wr)
  case atStart => exact ⟨0, none, 0, 0, rfl, Nat.zero_le _, rfl, rfl, ⟨rfl, .inl ⟨rfl, rfl⟩⟩, Fr.refl _⟩
  case round =>
    obtain ⟨j, a6, n6, c6, hg, hj, rfl, rfl, ho6, G6⟩ := hrel
    have HG := Lib.hid hg
    clear hg
    by_cases hjl : j < ns.length
    · obtain ⟨b, o, rfl, hy⟩ := HX.out (by omega)
      obtain ⟨n, hnj⟩ : ∃ n, ns[j]? = some n := ⟨_, List.getElem?_eq_getElem hjl⟩
      have ec := G6.cell (hy j n (by rw [List.getElem?_map, hnj]; rfl)) (fun h => h)
      have hb0 : w.heap.size ≤ wr.heap.size := G6.size
      have hlt := HN.out n (List.mem_of_getElem? hnj)
      have htl := encAll_take_le ns j
      have hvb := (Vals.of_own ho6).2
      have q1 : (0 : Int) ≤ (j : Int) := by omega
      have q2 : (j : Int) < (ns.length : Int) := by omega
      have HT := Lib.hid (encAll_take hnj)
      have HHY := Lib.hid hy
      clear hy hnj
      by_cases n1 : n < 128
      · have r1 : (n : Int) < 128 := by omega
        have hw1 : IntKind.u8.wrap (n : Int) = (n : Int) := by simp [IntKind.wrap, IntKind.signed, IntKind.bits]; omega
        have he : enc n = [UInt8.ofNat n] := by unfold enc; rw [if_pos n1]
        obtain ⟨a7, c7, w7, hr7, ho7, F7⟩ := add_bytes ho6 [UInt8.ofNat n] #[.int .u8 n] (by simp only [Lib.byteCells, List.map_cons, List.map_nil, Go.Q.u8 n (by omega)]) 1 rfl (by omega) hb0
        have G7 := G6.trans' F7 (fun i hi e => absurd hi (by have := hvb i e; omega))
        rw [← he, ← HT.out] at ho7
        have hL := congrArg List.length HT.out
        rw [List.length_append, he] at hL
        have HL := Lib.hid hL
        have HO7 := Lib.hid ho7
        have HG7 := Lib.hid G7
        have HRUN := Lib.hid hr7
        clear ho6 ho7 F7 hvb G6 G7 hr7 hL he htl
        generalize (encAll (ns.take j)).length = L at *
        go_wp2_with (at_builtin; refine wpList_append_run (by rfl) (.tmp 40) (.tmp 43) 23 (by rfl) _ w7 (by exact HRUN.out) ?_)
        go_roundg (ns.length - (j + 1))
        case measure => rw [HG.out]; omega
        case rel => exact ⟨j + 1, a7, L + 1, c7, rfl, by omega, rfl, by go_num, by rw [HL.out]; exact HO7.out, HG7.out⟩
      have r1 : ¬ (n : Int) < 128 := by omega
      by_cases n2 : n < 2048
      · have r2 : (n : Int) < 2048 := by omega
        obtain ⟨y1, hy1⟩ : ∃ y, y = 192 + n / 64 := ⟨_, rfl⟩
        obtain ⟨y2, hy2⟩ : ∃ y, y = 128 + n % 64 := ⟨_, rfl⟩
        have hw1 : IntKind.u8.wrap (192 + (n : Int) / 64) = (y1 : Int) := by rw [hy1]; simp [IntKind.wrap, IntKind.signed, IntKind.bits]; omega
        have hw2 : IntKind.u8.wrap (128 + (n : Int) % 64) = (y2 : Int) := by rw [hy2]; simp [IntKind.wrap, IntKind.signed, IntKind.bits]; omega
        have he : enc n = [UInt8.ofNat y1, UInt8.ofNat y2] := by unfold enc; rw [if_neg n1, if_pos n2, hy1, hy2]
        obtain ⟨a7, c7, w7, hr7, ho7, F7⟩ := add_bytes ho6 [UInt8.ofNat y1, UInt8.ofNat y2] #[.int .u8 y1, .int .u8 y2] (by simp only [Lib.byteCells, List.map_cons, List.map_nil, Go.Q.u8 y1 (by omega), Go.Q.u8 y2 (by omega)]) 2 rfl (by omega) hb0
        have G7 := G6.trans' F7 (fun i hi e => absurd hi (by have := hvb i e; omega))
        rw [← he, ← HT.out] at ho7
        have hL := congrArg List.length HT.out
        rw [List.length_append, he] at hL
        have HL := Lib.hid hL
        have HO7 := Lib.hid ho7
        have HG7 := Lib.hid G7
        have HRUN := Lib.hid hr7
        clear ho6 ho7 F7 hvb G6 G7 hr7 hL he htl hy1 hy2
        generalize (encAll (ns.take j)).length = L at *
        go_wp2_with (at_builtin; refine wpList_append_run (by rfl) (.tmp 48) (.tmp 57) 23 (by rfl) _ w7 (by exact HRUN.out) ?_)
        go_roundg (ns.length - (j + 1))
        case measure => rw [HG.out]; omega
        case rel => exact ⟨j + 1, a7, L + 2, c7, rfl, by omega, rfl, by go_num, by rw [HL.out]; exact HO7.out, HG7.out⟩
      have r2 : ¬ (n : Int) < 2048 := by omega
      by_cases n3 : n < 65536
      · have r3 : (n : Int) < 65536 := by omega
        obtain ⟨y1, hy1⟩ : ∃ y, y = 224 + n / 4096 := ⟨_, rfl⟩
        obtain ⟨y2, hy2⟩ : ∃ y, y = 128 + n / 64 % 64 := ⟨_, rfl⟩
        obtain ⟨y3, hy3⟩ : ∃ y, y = 128 + n % 64 := ⟨_, rfl⟩
        have hw1 : IntKind.u8.wrap (224 + (n : Int) / 4096) = (y1 : Int) := by rw [hy1]; simp [IntKind.wrap, IntKind.signed, IntKind.bits]; omega
        have hw2 : IntKind.u8.wrap (128 + (n : Int) / 64 % 64) = (y2 : Int) := by rw [hy2]; simp [IntKind.wrap, IntKind.signed, IntKind.bits]; omega
        have hw3 : IntKind.u8.wrap (128 + (n : Int) % 64) = (y3 : Int) := by rw [hy3]; simp [IntKind.wrap, IntKind.signed, IntKind.bits]; omega
        have he : enc n = [UInt8.ofNat y1, UInt8.ofNat y2, UInt8.ofNat y3] := by unfold enc; rw [if_neg n1, if_neg n2, if_pos n3, hy1, hy2, hy3]
        obtain ⟨a7, c7, w7, hr7, ho7, F7⟩ := add_bytes ho6 [UInt8.ofNat y1, UInt8.ofNat y2, UInt8.ofNat y3] #[.int .u8 y1, .int .u8 y2, .int .u8 y3] (by simp only [Lib.byteCells, List.map_cons, List.map_nil, Go.Q.u8 y1 (by omega), Go.Q.u8 y2 (by omega), Go.Q.u8 y3 (by omega)]) 3 rfl (by omega) hb0
        have G7 := G6.trans' F7 (fun i hi e => absurd hi (by have := hvb i e; omega))
        rw [← he, ← HT.out] at ho7
        have hL := congrArg List.length HT.out
        rw [List.length_append, he] at hL
        have HL := Lib.hid hL
        have HO7 := Lib.hid ho7
        have HG7 := Lib.hid G7
        have HRUN := Lib.hid hr7
        clear ho6 ho7 F7 hvb G6 G7 hr7 hL he htl hy1 hy2 hy3
        generalize (encAll (ns.take j)).length = L at *
        go_wp2_with (at_builtin; refine wpList_append_run (by rfl) (.tmp 62) (.tmp 76) 23 (by rfl) _ w7 (by exact HRUN.out) ?_)
        go_roundg (ns.length - (j + 1))
        case measure => rw [HG.out]; omega
        case rel => exact ⟨j + 1, a7, L + 3, c7, rfl, by omega, rfl, by go_num, by rw [HL.out]; exact HO7.out, HG7.out⟩
      have r3 : ¬ (n : Int) < 65536 := by omega
      · obtain ⟨y0, hy0⟩ : ∃ y, y = 240 + n / 262144 := ⟨_, rfl⟩
        obtain ⟨y1, hy1⟩ : ∃ y, y = 128 + n / 4096 % 64 := ⟨_, rfl⟩
        obtain ⟨y2, hy2⟩ : ∃ y, y = 128 + n / 64 % 64 := ⟨_, rfl⟩
        obtain ⟨y3, hy3⟩ : ∃ y, y = 128 + n % 64 := ⟨_, rfl⟩
        have hw0 : IntKind.u8.wrap (240 + (n : Int) / 262144) = (y0 : Int) := by rw [hy0]; simp [IntKind.wrap, IntKind.signed, IntKind.bits]; omega
        have hw1 : IntKind.u8.wrap (128 + (n : Int) / 4096 % 64) = (y1 : Int) := by rw [hy1]; simp [IntKind.wrap, IntKind.signed, IntKind.bits]; omega
        have hw2 : IntKind.u8.wrap (128 + (n : Int) / 64 % 64) = (y2 : Int) := by rw [hy2]; simp [IntKind.wrap, IntKind.signed, IntKind.bits]; omega
        have hw3 : IntKind.u8.wrap (128 + (n : Int) % 64) = (y3 : Int) := by rw [hy3]; simp [IntKind.wrap, IntKind.signed, IntKind.bits]; omega
        have he : enc n = [UInt8.ofNat y0, UInt8.ofNat y1, UInt8.ofNat y2, UInt8.ofNat y3] := by unfold enc; rw [if_neg n1, if_neg n2, if_neg n3, hy0, hy1, hy2, hy3]
        obtain ⟨a7, c7, w7, hr7, ho7, F7⟩ := add_bytes ho6 [UInt8.ofNat y0, UInt8.ofNat y1, UInt8.ofNat y2, UInt8.ofNat y3] #[.int .u8 y0, .int .u8 y1, .int .u8 y2, .int .u8 y3] (by simp only [Lib.byteCells, List.map_cons, List.map_nil, Go.Q.u8 y0 (by omega), Go.Q.u8 y1 (by omega), Go.Q.u8 y2 (by omega), Go.Q.u8 y3 (by omega)]) 4 rfl (by omega) hb0
        have G7 := G6.trans' F7 (fun i hi e => absurd hi (by have := hvb i e; omega))
        rw [← he, ← HT.out] at ho7
        have hL := congrArg List.length HT.out
        rw [List.length_append, he] at hL
        have HL := Lib.hid hL
        have HO7 := Lib.hid ho7
        have HG7 := Lib.hid G7
        have HRUN := Lib.hid hr7
        clear ho6 ho7 F7 hvb G6 G7 hr7 hL he htl hy0 hy1 hy2 hy3
        generalize (encAll (ns.take j)).length = L at *
        go_wp2_with (at_builtin; refine wpList_append_run (by rfl) (.tmp 16) (.tmp 35) 23 (by rfl) _ w7 (by exact HRUN.out) ?_)
        go_roundg (ns.length - (j + 1))
        case measure => rw [HG.out]; omega
        case rel => exact ⟨j + 1, a7, L + 4, c7, rfl, by omega, rfl, by go_num, by rw [HL.out]; exact HO7.out, HG7.out⟩
    · have hj' : encAll (ns.take j) = encAll ns := by rw [List.take_of_length_le (by omega)]
      rw [hj'] at ho6
      have HO6 := Lib.hid ho6
      have HG6 := Lib.hid G6
      have q2 : ¬ (j : Int) < (ns.length : Int) := by omega
      clear ho6 G6 hj'
      go_wp2_with fail
      go_ret
      exact ⟨_, rfl, HO6.out, HG6.out⟩
end Go.Proofs.YtacekpdjapgfcaaGreatDoor
