/-
  Merged by program: XR06R XR08 XR02 XR04D XNLeast XNBld XNOidT.
-/
import Derived.Test.YthjcoolefboodaaGreatDoorI0g
import Derived.Test.YthjcoolefboodaaGreatDoorI0e
import Derived.Test.YthjcoolefboodaaGreatDoorI0h
import Derived.Deep.RegionLaw
import Derived.Test.YthjcoolefboodaaGreatDoorI0d
import Derived.Test.YthjcoolefboodaaGreatDoorI0c
import Derived.Test.YthjcoolefboodaaGreatDoorI0a
import Derived.Lib.Builder
import Derived.Lib.AppendStr
namespace Go.Q
open Go Go.RowKit
theorem Vals.part {w : World} {a : Option Addr} {m cap : Nat} {l : List UInt8} (h : Bytes w (.slice a m cap) l) (i n : Nat) (hij : i + n ≤ l.length) (a' : Option Addr) (cap' : Nat) (ha : 0 < n → ∀ b o, a = some ⟨b, o, none⟩ → a' = some ⟨b, o + i, none⟩) (hc : n ≤ cap') (hm : cap' ≤ maxLen) : Bytes w (.slice a' n cap') ((l.drop i).take n) := by
  obtain ⟨a0, c0, he, -⟩ := Vals.form h
  simp only [Value.slice.injEq] at he
  obtain ⟨rfl, rfl, rfl⟩ := he
  have := Vals.sub h i (i + n) (by omega) hij a' cap' (fun h0 => ha (by omega)) (by omega) hm
  rw [show i + n - i = n from by omega] at this
  unfold Bytes Lib.byteCells
  rw [List.map_take, List.map_drop]
  exact this
end Go.Q
namespace Go.Proofs.YthjcoolefboodaaGreatDoor
open Go Go.RowKit Go.Q
set_option linter.unusedSimpArgs false
def RTextOut (wb : World) (l : List UInt8) (p : Nat) (e : Ending) : Prop :=
  match textReadS (l.drop p) with
  | .error x => e = .returned (.tuple #[.agg #[.int .i64 0, .slice none 0 0], .int .i64 p, .int .i64 x])
  | .ok (k, b, n) => ∃ u, e = .returned (.tuple #[.agg #[.int .i64 k, u], .int .i64 ((p + n : Nat) : Int), .int .i64 0]) ∧ Bytes wb u b
set_option maxRecDepth 20000 in
set_option maxHeartbeats 4000000 in
theorem r06Read_any (v : Value) (l : List UInt8) (p : Nat) (wb w : World) (hb : Bytes wb v l) (Fb : Fr (fun _ => False) wb w) (hp : p ≤ l.length) (hl : l.length ≤ 16777216) :
    Calls Tryz.prog 112 #[v, .int .i64 p, .slice none 0 0] w fun e w' => RTextOut wb l p e ∧ Fr (fun _ => False) w w' := by
  have h := hb.old Fb
  have HBB := Lib.hid hb
  clear hb Fb
  obtain ⟨a, cap, rfl, hcap, hcm, hx⟩ := h.form
  obtain ⟨z, hz⟩ : ∃ z, z = w.heap.size := ⟨_, rfl⟩
  have BZ := Blk.new w 143 #[.int .i64 0, .slice none 0 0]
  have F0 : Fr (fun _ => False) w (w.alloc (.cells #[.int .i64 0, .slice none 0 0] 143)) := (Fr.refl w).alloc _
  rw [← hz] at BZ
  have hzw : ∀ k, k < w.heap.size → k = z → False := fun k hk e => by omega
  have HZ := Lib.hid hz
  have HT := Lib.hid (r02Read_any _ l p _ (h.old F0) hp (by omega))
  have HB := Lib.hid h
  have HF0 := Lib.hid F0
  have HZW := Lib.hid hzw
  have HX := Lib.hid hx
  have hR : textReadS (l.drop p) = match readS (l.drop p) with
    | .error e => .error e
    | .ok (t, n, k) => if t.cls ≠ 0 ∨ t.made = true ∨ Go.Q.kindOk t.num = false then .error 4 else if (l.drop p).length - k < n then .error 3 else
      if rightS t.num (((l.drop p).drop k).take n) = true then .ok (t.num, ((l.drop p).drop k).take n, k + n) else .error 6 := rfl
  have HR := Lib.hid hR
  clear h hx hz F0 hzw hR
  go_enter Tryz.func112, Tryz.ntmps112
  go_upto_region 1 with fail
  rw [← HZ.out]
  generalize (w.alloc (.cells #[.int .i64 0, .slice none 0 0] 143)) = w0 at *
  go_wp2_with fail
  refine HT.out.mono ?_
  rintro e w1 ⟨rfl, F⟩
  replace BZ := BZ.fr F (fun h => h)
  have HF := Lib.hid (HF0.out.trans F)
  clear F HF0 HT
  cases ht : readS (l.drop p) with
  | error e =>
    have he : e ≠ 0 := readS_err ht
    have he1 : (e == 0) = false := beq_eq_false_iff_ne.2 he
    have he2 : (e != 0) = true := by simpa using he
    have hres : textReadS (l.drop p) = .error e := by rw [HR.out, ht]
    have HRES := Lib.hid hres
    clear ht hres he
    rw [show rReadV p (.error e) = .tuple #[.agg #[.int .i64 0, .int .i64 0, .bool false], .int .i64 0, .int .i64 p, .int .i64 e] from rfl]
    go_upto_region 2 with fail
    have F1 : Fr (fun _ => False) w1 (w1.alloc (.cells #[.int .i64 0, .int .i64 0, .bool false] 152)) := (Fr.refl w1).alloc _
    replace BZ := BZ.fr F1 (fun h => h)
    have HF1 := Lib.hid (HF.out.trans F1)
    clear F1 HF
    generalize (w1.alloc (.cells #[.int .i64 0, .int .i64 0, .bool false] 152)) = w2 at *
    have SZ := BZ.cell
    have ZZ := BZ.frozen
    go_wp2_with fail
    obtain ⟨B5, F5⟩ := set2 BZ (.int .i64 0) (.slice none 0 0)
    generalize ((w2.setCell ⟨z, 0, none⟩ (.int .i64 0)).setCell ⟨z, 1, none⟩ (.slice none 0 0)) = w5 at *
    have n0 := B5.cell 0
    have n1 := B5.cell 1
    simp at n0 n1
    refine bodyPost_ret (v := .tuple #[.agg #[.int .i64 0, .slice none 0 0], .int .i64 p, .int .i64 e]) (by simp [results, Tryz.results112, go_sem, n0, n1]) rfl ?_
    exact ⟨by unfold RTextOut; rw [HRES.out], HF1.out.trans' F5 HZW.out⟩
  | ok tnk =>
    obtain ⟨⟨c1, c2, c3⟩, n, k⟩ := tnk
    rw [show rReadV p (.ok (⟨c1, c2, c3⟩, n, k)) = .tuple #[.agg #[.int .i64 c1, .int .i64 c2, .bool c3], .int .i64 n, .int .i64 ((p + k : Nat) : Int), .int .i64 0] from rfl]
    have hk := (readS_le ht).1
    rw [List.length_drop] at hk
    generalize hq : p + k = q at *
    have hres : textReadS (l.drop p) = if c1 ≠ 0 ∨ c3 = true ∨ Go.Q.kindOk c2 = false then .error 4 else if l.length - q < n then .error 3 else
      if rightS c2 ((l.drop q).take n) = true then .ok (c2, (l.drop q).take n, k + n) else .error 6 := by
      rw [HR.out, ht]
      simp only [List.length_drop, List.drop_drop, hq, Nat.sub_sub]
    have HRES := Lib.hid hres
    have hq1 : q ≤ l.length := by omega
    have hnl := (readS_le ht).2
    clear ht hres
    go_upto_region 2 with fail
    have F1 : Fr (fun _ => False) w1 (w1.alloc (.cells #[.int .i64 c1, .int .i64 c2, .bool c3] 152)) := (Fr.refl w1).alloc _
    obtain ⟨d, hd⟩ : ∃ d, d = w1.heap.size := ⟨_, rfl⟩
    have BD := Blk.new w1 152 #[.int .i64 c1, .int .i64 c2, .bool c3]
    rw [← hd] at BD ⊢
    replace BZ := BZ.fr F1 (fun h => h)
    have HF1 := Lib.hid (HF.out.trans F1)
    clear F1 HF hd
    generalize (w1.alloc (.cells #[.int .i64 c1, .int .i64 c2, .bool c3] 152)) = w2 at *
    have SZ := BZ.cell
    have ZZ := BZ.frozen
    have SD := BD.cell
    go_wp2_with fail
    refine (r06Kind_any c2 w2).mono ?_
    rintro e w' ⟨rfl, rfl⟩
    obtain ⟨K, hK⟩ : ∃ K, K = Go.Q.kindOk c2 := ⟨_, rfl⟩
    rw [← hK] at HRES ⊢
    clear hK
    go_wp2_with fail
    go_loopg [13, 14] 1 (fun g ok i wr => g = 1 ∧ ok = .bool K ∧ i = .int .i64 0 ∧ wr = w2)
    case atStart => exact ⟨rfl, rfl, rfl, rfl⟩
    case round =>
      obtain ⟨-, rfl, rfl, rfl⟩ := hrel
      by_cases hbad : c1 ≠ 0 ∨ c3 = true ∨ K = false
      · have hE : textReadS (l.drop p) = .error 4 := by rw [HRES.out, if_pos hbad]
        have HE := Lib.hid hE
        clear hE HRES
        have hc : K = false ∨ (K = true ∧ (c1 == 0) = false ∧ (c1 != 0) = true) ∨ (K = true ∧ (c1 == 0) = true ∧ (c1 != 0) = false ∧ c3 = true) := by
          cases K with
          | false => exact .inl rfl
          | true =>
            by_cases h1 : c1 = 0
            · subst h1
              refine .inr (.inr ⟨rfl, rfl, rfl, ?_⟩)
              simpa using hbad
            · exact .inr (.inl ⟨rfl, beq_eq_false_iff_ne.2 h1, by simpa using h1⟩)
        clear hbad
        rcases hc with rfl | ⟨rfl, g1, g2⟩ | ⟨rfl, g1, g2, rfl⟩
        all_goals
          go_wp2_with fail
          obtain ⟨B5, F5⟩ := set2 BZ (.int .i64 0) (.slice none 0 0)
          generalize ((wr.setCell ⟨z, 0, none⟩ (.int .i64 0)).setCell ⟨z, 1, none⟩ (.slice none 0 0)) = w5 at *
          have n0 := B5.cell 0
          have n1 := B5.cell 1
          simp at n0 n1
          refine bodyPost_ret (v := .tuple #[.agg #[.int .i64 0, .slice none 0 0], .int .i64 p, .int .i64 4]) (by simp [results, Tryz.results112, go_sem, n0, n1]) rfl ?_
          exact ⟨by unfold RTextOut; rw [HE.out], HF1.out.trans' F5 HZW.out⟩
      · have hc : c1 = 0 ∧ c3 = false ∧ K = true := by
          refine ⟨Classical.byContradiction fun h => hbad (.inl h), ?_, ?_⟩
          · cases c3 with
            | false => rfl
            | true => exact absurd (.inr (.inl rfl)) hbad
          · cases K with
            | true => rfl
            | false => exact absurd (.inr (.inr rfl)) hbad
        obtain ⟨rfl, rfl, rfl⟩ := hc
        have hres := HRES.out
        rw [if_neg hbad] at hres
        have HRES2 := Lib.hid hres
        clear HRES hres hbad
        by_cases h3 : l.length - q < n
        · have q3 : (l.length : Int) - (q : Int) < (n : Int) := by omega
          have hE : textReadS (l.drop p) = .error 3 := by rw [HRES2.out, if_pos h3]
          have HE := Lib.hid hE
          clear hE HRES2
          go_wp2_with fail
          obtain ⟨B5, F5⟩ := set2 BZ (.int .i64 0) (.slice none 0 0)
          generalize ((wr.setCell ⟨z, 0, none⟩ (.int .i64 0)).setCell ⟨z, 1, none⟩ (.slice none 0 0)) = w5 at *
          have n0 := B5.cell 0
          have n1 := B5.cell 1
          simp at n0 n1
          refine bodyPost_ret (v := .tuple #[.agg #[.int .i64 0, .slice none 0 0], .int .i64 p, .int .i64 3]) (by simp [results, Tryz.results112, go_sem, n0, n1]) rfl ?_
          exact ⟨by unfold RTextOut; rw [HE.out], HF1.out.trans' F5 HZW.out⟩
        · have q3 : ¬ (l.length : Int) - (q : Int) < (n : Int) := by omega
          have hres := HRES2.out
          rw [if_neg h3] at hres
          have HRES := Lib.hid hres
          have r1 : (0 : Int) ≤ (q : Int) := by omega
          obtain ⟨sm, hsm⟩ : ∃ sm, sm = q + n := ⟨_, rfl⟩
          have hsi : (q : Int) + (n : Int) = (sm : Int) := by omega
          have hwi : IntKind.i64.wrap (sm : Int) = (sm : Int) := by simp [IntKind.wrap, IntKind.signed, IntKind.bits]; omega
          have r2 : (q : Int) ≤ (sm : Int) := by omega
          have r2N : q ≤ sm := by omega
          have r3 : (sm : Int) ≤ (cap : Int) := by omega
          have r3N : sm ≤ cap := by omega
          have r4 : (0 : Int) ≤ (sm : Int) := by omega
          have HSM := Lib.hid hsm
          have hcm2 : cap ≤ 9223372036854775807 := by unfold maxLen at hcm; omega
          clear hres HRES2 hsm
          go_upto_region 13 with fail
          have hcapq : (cap - q : Nat) ≤ maxLen := by omega
          obtain ⟨A, hA⟩ : ∃ A, A = (if cap = q then a else Option.map (fun x => x.add q) a) := ⟨_, rfl⟩
          have hA2 : 0 < n → ∀ b o, a = some ⟨b, o, none⟩ → A = some ⟨b, o + q, none⟩ := fun h0 b o e => by
            subst e
            rw [hA, if_neg (by omega)]
            show some ((⟨b, o, none⟩ : Addr).add q) = _
            congr 1
            unfold Addr.add
            split <;> simp_all
          have hsn : sm - q = n := by have := HSM.out; omega
          have hVB := Vals.part HB.out q n (by omega) A (cap - q) hA2 (by have := HSM.out; omega) hcapq
          have hVW := Vals.part HBB.out q n (by omega) A (cap - q) hA2 (by have := HSM.out; omega) hcapq
          have HVW := Lib.hid hVW
          have HVO := Lib.hid hVB.lt
          have HVB := Lib.hid (hVB.old HF1.out)
          have HA := Lib.hid hA
          obtain ⟨cp, hcp⟩ : ∃ cp, cp = cap - q := ⟨_, rfl⟩
          rw [← hcp] at HVB HVO HVW
          have HCP := Lib.hid hcp
          have HSN := Lib.hid hsn
          clear hA hA2 hVB hVW hcapq hcp hsn
          go_cut [15] from 76 to 84 (fun s wc => s = pt wr.heap.size ∧ wc = (wr.alloc (.cells #[.int .i64 c2, .slice A n cp] 143)).drew)
          case first =>
            have SD := BD.drew.cell
            have SD2 := (BD.alloc (.cells #[.int .i64 0, .slice none 0 0] 143)).cell
            have hA2 := HA.out.symm
            have hcp2 := HCP.out.symm
            have hsn2 := HSN.out
            go_region_law fail
            all_goals
              go_wp2_with fail
              go_meet
              first | exact ⟨rfl, rfl⟩ | exact ⟨rfl, by rw [HA.out, HCP.out]⟩
          case rest =>
            obtain ⟨rfl, rfl⟩ := hcut
            obtain ⟨tb, htb⟩ : ∃ tb, tb = wr.heap.size := ⟨_, rfl⟩
            have BT := (Blk.new wr 143 #[.int .i64 c2, .slice A n cp]).drew
            have F6 : Fr (fun _ => False) wr (wr.alloc (.cells #[.int .i64 c2, .slice A n cp] 143)).drew := ((Fr.refl wr).alloc _).drew
            rw [← htb] at BT ⊢
            have BZ4 := BZ.fr F6 (fun h => h)
            have HV4 := Lib.hid (HVB.out.old F6)
            have HF6 := Lib.hid (HF1.out.trans F6)
            clear F6 htb HVB HF1
            generalize (wr.alloc (.cells #[.int .i64 c2, .slice A n cp] 143)).drew = w4 at *
            obtain ⟨C, hC⟩ : ∃ C, C = (l.drop q).take n := ⟨_, rfl⟩
            have hCl : C.length = n := by rw [hC, List.length_take, List.length_drop]; omega
            rw [← hC] at HV4 HRES HVO HVW
            have hS := r06Signs_any c2 _ C w4 HV4.out (by omega)
            unfold RSigOut at hS
            have HS := Lib.hid hS
            have t0 := BT.cell 0
            have t1 := BT.cell 1
            simp only [List.getElem?_toArray, List.getElem?_cons_succ, List.getElem?_cons_zero] at t0 t1
            clear hC hS
            go_wp2_with fail
            refine HS.out.mono ?_
            rintro e w6 ⟨v6, rfl, -, F7⟩
            have BZ6 := BZ4.fr F7 (fun h => h)
            have BT6 := BT.fr F7 (fun h => h)
            have HF7 := Lib.hid (HF6.out.trans F7)
            have HV6 := Lib.hid (HV4.out.old F7)
            clear t0 t1 F7 HS
            have t0 := BT6.cell 0
            have t1 := BT6.cell 1
            simp only [List.getElem?_toArray, List.getElem?_cons_succ, List.getElem?_cons_zero] at t0 t1
            have SZ := BZ6.cell
            have ZZ := BZ6.frozen
            rw [sigR_iff]
            by_cases hr : rightS c2 C = true
            · have hres := HRES.out
              rw [if_pos hr] at hres
              have HE := Lib.hid hres
              rw [if_pos hr]
              rw [Option.isSome_some]
              clear hres hr
              go_wp2_with fail
              obtain ⟨B5, F5⟩ := set2 BZ6 (.int .i64 c2) (.slice A n cp)
              generalize ((w6.setCell ⟨z, 0, none⟩ (.int .i64 c2)).setCell ⟨z, 1, none⟩ (.slice A n cp)) = w5 at *
              have n0 := B5.cell 0
              have n1 := B5.cell 1
              simp at n0 n1
              refine bodyPost_ret (v := .tuple #[.agg #[.int .i64 c2, .slice A n cp], .int .i64 sm, .int .i64 0]) (by simp [results, Tryz.results112, go_sem, n0, n1]) rfl ?_
              refine ⟨?_, HF7.out.trans' F5 HZW.out⟩
              unfold RTextOut
              rw [HE.out]
              refine ⟨_, by rw [show ((p + (k + n) : Nat) : Int) = (sm : Int) from by have := HSM.out; omega], ?_⟩
              exact HVW.out
            · have hres := HRES.out
              rw [if_neg hr] at hres
              have HE := Lib.hid hres
              rw [if_neg hr]
              rw [Option.isSome_none]
              clear hres hr
              go_wp2_with fail
              obtain ⟨B5, F5⟩ := set2 BZ6 (.int .i64 0) (.slice none 0 0)
              generalize ((w6.setCell ⟨z, 0, none⟩ (.int .i64 0)).setCell ⟨z, 1, none⟩ (.slice none 0 0)) = w5 at *
              have n0 := B5.cell 0
              have n1 := B5.cell 1
              simp at n0 n1
              refine bodyPost_ret (v := .tuple #[.agg #[.int .i64 0, .slice none 0 0], .int .i64 p, .int .i64 6]) (by simp [results, Tryz.results112, go_sem, n0, n1]) rfl ?_
              exact ⟨by unfold RTextOut; rw [HE.out], HF7.out.trans' F5 HZW.out⟩
end Go.Proofs.YthjcoolefboodaaGreatDoor

namespace Go.Q
open Go
theorem one_err {l : List UInt8} {e : Int} (h : readS l = .error e) : oneS l = .error e := by unfold oneS; rw [h]
theorem one_end {l : List UInt8} {t : Tag} {n k : Nat} (h : readS l = .ok (t, n, k)) (hn : l.length - k < n) : oneS l = .error 3 := by unfold oneS; rw [h]; exact if_pos hn
theorem one_ok {l : List UInt8} {t : Tag} {n k : Nat} (h : readS l = .ok (t, n, k)) (hn : ¬ l.length - k < n) : oneS l = .ok (t, k, k + n) := by unfold oneS; rw [h]; exact if_neg hn
end Go.Q
namespace Go.Proofs.YthjcoolefboodaaGreatDoor
open Go Go.RowKit Go.Q
set_option linter.unusedSimpArgs false
set_option maxRecDepth 20000 in
set_option maxHeartbeats 2000000 in
theorem r08Wholes_any (v : Value) (l : List UInt8) (w : World) (h : Bytes w v l) (hl : l.length ≤ 16777216) :
    Calls Tryz.prog 80 #[v, .int .i64 0] w fun e w' => wholesOut (allS l) e ∧ Fr (fun _ => False) w w' := by
  obtain ⟨a, cap, rfl, hcap, hcm, -⟩ := h.form
  have H := Lib.hid h
  have hcm2 : cap ≤ 9223372036854775807 := by unfold maxLen at hcm; omega
  clear h
  go_enter Tryz.func80, Tryz.ntmps80
  go_wp2_with fail
  go_loopg [1, 6] l.length (fun g pp ls wr => ∃ (q : Nat) (a2 : Option Addr) (m c2 : Nat) (xs : List Value), g = l.length - q ∧ q ≤ l.length ∧ m ≤ q ∧ pp = .int .i64 q ∧ ls = .slice a2 m c2 ∧ wr.ownsRow w.heap.size 22 1 (.slice a2 m c2) m xs ∧ Fr (fun _ => False) w wr ∧ (∀ e, allS (l.drop q) = .error e → allS l = .error e) ∧ (∀ ls, allS (l.drop q) = .ok ls → ∃ ls', allS l = .ok ls' ∧ ls'.length = m + ls.length))
  case atStart => exact ⟨0, none, 0, 0, [], rfl, Nat.zero_le _, Nat.le_refl _, rfl, rfl, ⟨rfl, .inl ⟨rfl, rfl⟩⟩, Fr.refl _, fun e h => h, fun ls h => ⟨ls, h, by omega⟩⟩
  case round =>
    obtain ⟨q, a2, m, c2, xs, hg, hq, hmq, rfl, rfl, ho, F, hE, hO⟩ := hrel
    have HG := Lib.hid hg
    have HE := Lib.hid hE
    have HO := Lib.hid hO
    have HOW := Lib.hid ho
    have HF := Lib.hid F
    have hv := Lib.hid (Vals.of_own ho).2
    clear hg hE hO ho F
    by_cases hql : q < l.length
    · have q1 : (q : Int) < (l.length : Int) := by omega
      have hne : l.drop q ≠ [] := fun e => by have := drop_nil e; omega
      have HNE := Lib.hid hne
      have HR := Lib.hid (r02Read_any _ l q wr (H.out.old HF.out) hq (by omega))
      clear hne
      go_wp2_with fail
      refine HR.out.mono ?_
      rintro e w2 ⟨rfl, F2⟩
      have HOW2 := Lib.hid (ownsRow_fr HOW.out F2 (fun _ _ h => h))
      have HF2 := Lib.hid (HF.out.trans F2)
      clear HR HOW HF F2
      cases hr : readS (l.drop q) with
      | error x =>
        have hx : x ≠ 0 := readS_err hr
        have hx1 : (x == 0) = false := beq_eq_false_iff_ne.2 hx
        have hx2 : (x != 0) = true := by simpa using hx
        have hA := Lib.hid (HE.out x (allS_err HNE.out (one_err hr)))
        rw [show rReadV q (.error x) = .tuple #[.agg #[.int .i64 0, .int .i64 0, .bool false], .int .i64 0, .int .i64 q, .int .i64 x] from rfl]
        clear hr hx
        go_wp2_with fail
        refine bodyPost_ret (v := .tuple #[.slice none 0 0, .int .i64 x]) (by simp [results, Tryz.results80, go_sem]) rfl ⟨?_, HF2.out.alloc _⟩
        rw [hA.out]
        rfl
      | ok tnk =>
        obtain ⟨⟨t1, t2, t3⟩, n, k⟩ := tnk
        rw [show rReadV q (.ok (⟨t1, t2, t3⟩, n, k)) = .tuple #[.agg #[.int .i64 t1, .int .i64 t2, .bool t3], .int .i64 n, .int .i64 ((q + k : Nat) : Int), .int .i64 0] from rfl]
        have hk := (readS_le hr).1
        have hn16 := (readS_le hr).2
        have hkp := readS_pos hr
        rw [List.length_drop] at hk
        by_cases h3 : (l.drop q).length - k < n
        · have hA := Lib.hid (HE.out 3 (allS_err HNE.out (one_end hr h3)))
          rw [List.length_drop] at h3
          obtain ⟨s, hs⟩ : ∃ s, s = q + k := ⟨_, rfl⟩
          rw [← hs]
          have q3 : (l.length : Int) - (s : Int) < (n : Int) := by omega
          have hsl : s ≤ l.length := by omega
          clear hr hs
          go_wp2_with fail
          refine bodyPost_ret (v := .tuple #[.slice none 0 0, .int .i64 3]) (by simp [results, Tryz.results80, go_sem]) rfl ⟨?_, HF2.out.alloc _⟩
          rw [hA.out]
          rfl
        · have hA := Lib.hid (allS_ok HNE.out (one_ok hr h3))
          rw [List.length_drop] at h3
          obtain ⟨s, hs⟩ : ∃ s, s = q + k := ⟨_, rfl⟩
          rw [← hs]
          obtain ⟨r, hrr⟩ : ∃ r, r = s + n := ⟨_, rfl⟩
          have q3 : ¬ (l.length : Int) - (s : Int) < (n : Int) := by omega
          have hsl : s ≤ l.length := by omega
          have hsi : (s : Int) + (n : Int) = (r : Int) := by omega
          have hwi : IntKind.i64.wrap (r : Int) = (r : Int) := by simp [IntKind.wrap, IntKind.signed, IntKind.bits]; omega
          have r0 : (0 : Int) ≤ (q : Int) := by omega
          have r1 : (0 : Int) ≤ (r : Int) := by omega
          have r2 : (q : Int) ≤ (r : Int) := by omega
          have r2N : q ≤ r := by omega
          have r3 : (r : Int) ≤ (cap : Int) := by omega
          have r3N : r ≤ cap := by omega
          have hql2 : q ≤ cap := by omega
          have hrl : r ≤ l.length := by omega
          have hrk : r = q + (k + n) := by omega
          have hqr : q < r := by omega
          have HRK := Lib.hid hrk
          obtain ⟨A, hA2⟩ : ∃ A, A = Option.map (fun x => x.add q) a := ⟨_, rfl⟩
          obtain ⟨cp, hcp⟩ : ∃ cp, cp = cap - q := ⟨_, rfl⟩
          obtain ⟨rm, hrm⟩ : ∃ rm, rm = r - q := ⟨_, rfl⟩
          obtain ⟨gg, hgg⟩ : ∃ gg, gg = w2.heap.size + 1 := ⟨_, rfl⟩
          have BU := Blk.new (w2.alloc (.cells #[.int .i64 t1, .int .i64 t2, .bool t3] 152)) 22 #[.slice A rm cp]
          rw [World.size_alloc, ← hgg] at BU
          have F3 : Fr (fun _ => False) w2 ((w2.alloc (.cells #[.int .i64 t1, .int .i64 t2, .bool t3] 152)).alloc (.cells #[.slice A rm cp] 22)) := ((Fr.refl w2).alloc _).alloc _
          obtain ⟨v', w', hrun, ho7, F7, -⟩ := append_one (ownsRow_fr HOW2.out F3 (fun _ _ h => h)) gg _ BU rfl (by omega) ((HF2.out.trans F3).size)
          obtain ⟨a7, n7, c7, rfl, hn7⟩ := own_shape ho7
          subst hn7
          have HF7 := Lib.hid ((HF2.out.trans F3).trans' F7 (fun i hi e => absurd hi (by have := (hv.out i e).1; omega)))
          have HO7 := Lib.hid ho7
          have HRUN := Lib.hid hrun
          replace hA2 := hA2.symm
          replace hcp := hcp.symm
          replace hrm := hrm.symm
          have HGG := Lib.hid hgg
          clear hr hs hrr hrk hgg BU F3 hrun F7 ho7
          go_wp2_with (at_builtin; refine wpList_append_run (by rfl) (.tmp 32) (.tmp 39) 132 (by rfl) _ w' (by have h := HRUN.out; rw [HGG.out] at h; exact h) ?_)
          go_roundg (l.length - r)
          case measure => rw [HG.out]; omega
          refine ⟨r, a7, m + 1, c7, xs ++ [.slice A rm cp], rfl, hrl, by omega, rfl, rfl, HO7.out, HF7.out, fun e h => ?_, fun ls h => ?_⟩
          · rw [HRK.out, ← List.drop_drop] at h
            exact HE.out e (by rw [hA.out, h])
          · rw [HRK.out, ← List.drop_drop] at h
            obtain ⟨ls', h1, h2⟩ := HO.out _ (by rw [hA.out, h])
            exact ⟨ls', h1, by rw [h2]; simp only [List.length_cons]; omega⟩
    · have q1 : ¬ (q : Int) < (l.length : Int) := by omega
      have hd : l.drop q = [] := List.drop_eq_nil_of_le (by omega)
      obtain ⟨ls', h1, h2⟩ := HO.out [] (by rw [hd]; rfl)
      have H1 := Lib.hid h1
      have H2 := Lib.hid h2
      clear h1 h2 hd
      go_wp2_with fail
      refine bodyPost_ret (v := .tuple #[.slice a2 m c2, .int .i64 0]) (by simp [results, Tryz.results80, go_sem]) rfl ⟨?_, HF.out⟩
      rw [H1.out]
      exact ⟨a2, c2, by rw [H2.out]; simp⟩
end Go.Proofs.YthjcoolefboodaaGreatDoor

namespace Go.Proofs.YthjcoolefboodaaGreatDoor
open Go Go.RowKit Go.Q
set_option linter.unusedSimpArgs false
set_option maxRecDepth 20000 in
theorem r02Of_any (n : Int) (w : World) :
    Calls Tryz.prog 83 #[.int .i64 n] w fun e w' => e = .returned (tagV (tagOf n)) ∧ Fr (fun _ => False) w w' := by
  rcases Classical.em (n = 16) with h | h
  case' inl => subst h
  case' inr => have h16 : (n == 16) = false := beq_eq_false_iff_ne.2 h
  case' inl =>
    go_enter Tryz.func83, Tryz.ntmps83
    go_wp2_with fail
    exact bodyPost_ret (v := tagV ⟨0, 16, true⟩) (by simp [results, Tryz.results83, go_sem, tagV]) rfl ⟨rfl, (Fr.refl w).alloc _⟩
  case' inr =>
    go_enter Tryz.func83, Tryz.ntmps83
    go_wp2_with fail
    exact bodyPost_ret (v := tagV ⟨0, n, n == 17⟩) (by simp [results, Tryz.results83, go_sem, tagV]) rfl ⟨by simp [tagOf, tagV, h16], (Fr.refl w).alloc _⟩
set_option maxRecDepth 20000 in
theorem r02Length_any (n : Nat) (hn : n ≤ 16777216) (w : World) :
    Calls Tryz.prog 118 #[.int .i64 n] w fun e w' => ∃ v, e = .returned v ∧ w'.ownsRow w.heap.size 5 1 v (lenBytes n).length (Lib.byteCells (lenBytes n)) ∧ Fr (fun _ => False) w w' := by
  have key : ∀ cs : Array Value, cs = (Lib.byteCells (lenBytes n)).toArray → (lenBytes n).length ≤ 5 → (w.alloc (.cells cs 5)).ownsRow w.heap.size 5 1 (.slice (some ⟨w.heap.size, 0, none⟩) (lenBytes n).length (lenBytes n).length) (lenBytes n).length (Lib.byteCells (lenBytes n)) ∧ Fr (fun _ => False) w (w.alloc (.cells cs 5)) := by
    rintro cs rfl h5
    exact ⟨own_bytes (Blk.new w 5 _) (by omega) _ (Nat.le_refl _), (Fr.refl w).alloc _⟩
  by_cases h1 : n < 128
  · have q1 : (n : Int) < 128 := by omega
    have hL : lenBytes n = [UInt8.ofNat n] := by simp [lenBytes, h1]
    rw [hL] at key ⊢
    have HK := Lib.hid key
    clear key hL
    go_enter Tryz.func118, Tryz.ntmps118
    go_wp2_with fail
    go_ret
    refine ⟨_, rfl, HK.out _ ?_ (by simp)⟩
    simp [Lib.byteCells, IntKind.wrap, IntKind.signed, IntKind.bits]
    try omega
  have q1 : ¬ (n : Int) < 128 := by omega
  by_cases h2 : n < 256
  · have q2 : (n : Int) < 256 := by omega
    have hL : lenBytes n = [129, UInt8.ofNat n] := by simp [lenBytes, h1, h2]
    rw [hL] at key ⊢
    have HK := Lib.hid key
    clear key hL
    go_enter Tryz.func118, Tryz.ntmps118
    go_wp2_with fail
    go_ret
    refine ⟨_, rfl, HK.out _ ?_ (by simp)⟩
    simp [Lib.byteCells, IntKind.wrap, IntKind.signed, IntKind.bits]
    try omega
  have q2 : ¬ (n : Int) < 256 := by omega
  by_cases h3 : n < 65536
  · have q3 : (n : Int) < 65536 := by omega
    have hL : lenBytes n = [130, UInt8.ofNat (n / 256), UInt8.ofNat (n % 256)] := by simp only [lenBytes, h1, h2, h3, if_true, if_false]
    rw [hL] at key ⊢
    have HK := Lib.hid key
    clear key hL
    go_enter Tryz.func118, Tryz.ntmps118
    go_wp2_with fail
    go_ret
    refine ⟨_, rfl, HK.out _ ?_ (by simp)⟩
    simp [Lib.byteCells, IntKind.wrap, IntKind.signed, IntKind.bits]
    try omega
  have q3 : ¬ (n : Int) < 65536 := by omega
  by_cases h4 : n < 16777216
  · have q4 : (n : Int) < 16777216 := by omega
    have hL : lenBytes n = [131, UInt8.ofNat (n / 65536), UInt8.ofNat (n / 256 % 256), UInt8.ofNat (n % 256)] := by simp only [lenBytes, h1, h2, h3, h4, if_true, if_false]
    rw [hL] at key ⊢
    have HK := Lib.hid key
    clear key hL
    go_enter Tryz.func118, Tryz.ntmps118
    go_wp2_with fail
    go_ret
    refine ⟨_, rfl, HK.out _ ?_ (by simp)⟩
    simp [Lib.byteCells, IntKind.wrap, IntKind.signed, IntKind.bits]
    try omega
  have q4 : ¬ (n : Int) < 16777216 := by omega
  · have hL : lenBytes n = [132, UInt8.ofNat (n / 16777216), UInt8.ofNat (n / 65536 % 256), UInt8.ofNat (n / 256 % 256), UInt8.ofNat (n % 256)] := by simp only [lenBytes, h1, h2, h3, h4, if_false]
    rw [hL] at key ⊢
    have HK := Lib.hid key
    clear key hL
    go_enter Tryz.func118, Tryz.ntmps118
    go_wp2_with fail
    go_ret
    refine ⟨_, rfl, HK.out _ ?_ (by simp)⟩
    simp [Lib.byteCells, IntKind.wrap, IntKind.signed, IntKind.bits]
    try omega
set_option maxRecDepth 20000 in
theorem r02Bytes_any (t : Tag) (h : tagGood t) (w : World) :
    Calls Tryz.prog 117 #[tagV t] w fun e w' => ∃ v, e = .returned v ∧ w'.ownsRow w.heap.size 5 1 v 1 (Lib.byteCells [tagByte t]) ∧ Fr (fun _ => False) w w' := by
  have hv := tagByte_val h
  have key : ∀ (w' : World) (cs : Array Value), cs = (Lib.byteCells [tagByte t]).toArray → Fr (fun _ => False) w w' → (w'.alloc (.cells cs 5)).ownsRow w.heap.size 5 1 (.slice (some ⟨w'.heap.size, 0, none⟩) 1 1) 1 (Lib.byteCells [tagByte t]) ∧ Fr (fun _ => False) w (w'.alloc (.cells cs 5)) := by
    rintro w' cs rfl F
    exact ⟨own_bytes (l := [tagByte t]) (Blk.new w' 5 _) (by simp) _ F.size, F.alloc _⟩
  obtain ⟨⟨h1, h2⟩, h3, h4⟩ := h
  obtain ⟨c, n, m⟩ := t
  simp only at h1 h2 h3 h4
  have HV := Lib.hid hv
  have HK := Lib.hid key
  have B := Blk.new w 152 #[.int .i64 c, .int .i64 n, .bool m]
  have F0 : Fr (fun _ => False) w (w.alloc (.cells #[.int .i64 c, .int .i64 n, .bool m] 152)) := (Fr.refl w).alloc _
  have q1 : n < 31 := h4
  clear hv key
  rw [show tagV ⟨c, n, m⟩ = .agg #[.int .i64 c, .int .i64 n, .bool m] from rfl]
  cases m
  all_goals
    go_enter Tryz.func117, Tryz.ntmps117
    go_upto_region 1 with fail
    generalize hz : w.heap.size = z at B ⊢
    have HZ := Lib.hid hz
    generalize (w.alloc (.cells _ 152)) = w0 at *
    clear hz
    have S := B.cell
    go_wp2_with fail
    go_ret
    refine ⟨_, rfl, ?_⟩
    rw [← HZ.out]
    refine HK.out _ _ ?_ F0
    have := HV.out
    simp at this
    simp [Lib.byteCells, IntKind.wrap, IntKind.signed, IntKind.bits, this]
    try omega
set_option maxRecDepth 20000 in
theorem r02Wrap_any (t : Tag) (ht : tagGood t) (v : Value) (l : List UInt8) (w : World) (hv : Bytes w v l) (hl : l.length ≤ 16777216) :
    Calls Tryz.prog 82 #[tagV t, v] w fun e w' => ∃ v', e = .returned v' ∧ w'.ownsRow w.heap.size 5 1 v' (wrapS t l).length (Lib.byteCells (wrapS t l)) ∧ Fr (fun _ => False) w w' := by
  obtain ⟨a, cap, rfl, -⟩ := hv.form
  have HB := Lib.hid hv
  have HT := Lib.hid ht
  obtain ⟨N, hN⟩ : ∃ N, N = l.length := ⟨_, rfl⟩
  have HN := Lib.hid hN
  rw [← hN] at hl ⊢
  obtain ⟨c, n, m⟩ := t
  have B := Blk.new w 152 #[.int .i64 c, .int .i64 n, .bool m]
  have F0 : Fr (fun _ => False) w (w.alloc (.cells #[.int .i64 c, .int .i64 n, .bool m] 152)) := (Fr.refl w).alloc _
  obtain ⟨z, hz⟩ : ∃ z, z = w.heap.size := ⟨_, rfl⟩
  rw [← hz] at B
  have HZ := Lib.hid hz
  clear hz hv ht hN
  rw [show tagV ⟨c, n, m⟩ = .agg #[.int .i64 c, .int .i64 n, .bool m] from rfl]
  go_enter Tryz.func82, Tryz.ntmps82
  go_upto_region 1 with fail
  rw [← HZ.out]
  generalize (w.alloc (.cells #[.int .i64 c, .int .i64 n, .bool m] 152)) = w0 at *
  have S := B.cell
  go_wp2_with fail
  refine (r02Bytes_any ⟨c, n, m⟩ HT.out w0).mono ?_
  rintro e w1 ⟨vb, rfl, hob, F1⟩
  have G1 := F0.trans F1
  have hob' := own_le hob F0.size
  obtain ⟨ab, cb, rfl, -⟩ := (Vals.of_own hob').1.form
  have HOB := Lib.hid hob'
  clear hob hob' F0 F1 B S
  go_wp2_with fail
  refine (r02Length_any N hl w1).mono ?_
  rintro e w2 ⟨vd, rfl, hod, F2⟩
  have G2 := G1.trans F2
  have hb0 : w.heap.size ≤ w2.heap.size := G2.size
  have ho1 := ownsRow_fr HOB.out F2 (fun _ _ h => h)
  have hvd := (Vals.of_own hod).1
  obtain ⟨ad, cd, rfl, -⟩ := hvd.form
  obtain ⟨v3, w3, hr3, ho3, F3, _⟩ := append_bytes ho1 ad _ cd (lenBytes N) hvd (by have := len_small N hl; simp; omega) hb0
  have hvb := (Vals.of_own ho1).2
  have G3 := G2.trans' F3 (fun i hi e => absurd hi (by have := hvb i e; omega))
  have hll : (Lib.byteCells (lenBytes N)).length = (lenBytes N).length := byteCells_len _
  obtain ⟨a3, c3, rfl, -⟩ := (Vals.of_own ho3).1
  have hb3 : w.heap.size ≤ w3.heap.size := G3.size
  obtain ⟨v4, w4, hr4, ho4, F4, _⟩ := append_bytes ho3 a _ cap l (HB.out.old G3) (by have := len_small N hl; have := HN.out; simp; omega) hb3
  have hvb4 := (Vals.of_own ho3).2
  have G4 := G3.trans' F4 (fun i hi e => absurd hi (by have := hvb4 i e; omega))
  rw [← HN.out] at hr4 ho4
  have HO4 := Lib.hid ho4
  have HG4 := Lib.hid G4
  clear hod G2 ho1 hvd ho3 F3 hvb G3 F2 F4 hvb4 G4 ho4
  generalize (Lib.byteCells ([tagByte ⟨c, n, m⟩] ++ lenBytes N)).length = L3 at *
  go_wp2_with (at_builtin; first
    | refine wpList_append_run (by rfl) (.tmp 7) (.tmp 10) 22 (by rfl) _ w3 (by exact hr3) ?_
    | refine wpList_append_run (by rfl) (.tmp 12) (.tmp 13) 22 (by rfl) _ w4 (by exact hr4) ?_)
  go_ret
  refine ⟨_, rfl, ?_, HG4.out⟩
  have := HO4.out
  have e : wrapS ⟨c, n, m⟩ l = [tagByte ⟨c, n, m⟩] ++ lenBytes N ++ l := by rw [wrapS, ← HN.out]; simp
  rw [wrap_len, ← HN.out, e]
  exact this
end Go.Proofs.YthjcoolefboodaaGreatDoor

namespace Go.Proofs.YthjcoolefboodaaGreatDoor
open Go Go.RowKit Go.Q
set_option linter.unusedSimpArgs false
set_option maxRecDepth 20000 in
set_option maxHeartbeats 2000000 in
theorem r04digits_any : ∀ (n : Nat), n ≤ 2147483647 → ∀ (w : World),
    Calls Tryz.prog 153 #[.int .i64 n] w fun e w' => ∃ v, e = .returned v ∧ w'.ownsRow w.heap.size 5 1 v (base128 n).length (Lib.byteCells (base128 n)) ∧ Fr (fun _ => False) w w' := by
  intro n
  induction n using Nat.strongRecOn with
  | _ n ih =>
  intro hn w
  by_cases h128 : n < 128
  · have q1 : (n : Int) < 128 := by omega
    have hL := base128_small h128
    rw [hL]
    have hw8 : IntKind.u8.wrap (n : Int) = (n : Int) := by simp [IntKind.wrap, IntKind.signed, IntKind.bits]; omega
    have hk : (w.alloc (.cells #[.int .u8 n] 5)).ownsRow w.heap.size 5 1 (.slice (some ⟨w.heap.size, 0, none⟩) 1 1) 1 (Lib.byteCells [UInt8.ofNat n]) := by
      have e8 := u8 n (by omega)
      have BX := Blk.new w 5 #[.int .u8 n]
      have BX' : Blk (w.alloc (.cells #[.int .u8 n] 5)) w.heap.size 5 (Lib.byteCells [UInt8.ofNat n]).toArray := by
        simpa [Lib.byteCells, e8] using BX
      exact own_bytes BX' (by simp) w.heap.size (Nat.le_refl _)
    have HK := Lib.hid hk
    clear hk hL ih
    go_enter Tryz.func153, Tryz.ntmps153
    go_wp2_with fail
    go_ret
    exact ⟨_, rfl, HK.out, (Fr.refl w).alloc _⟩
  · have q1 : ¬ (n : Int) < 128 := by omega
    obtain ⟨front, e1, e2⟩ := base128_step (n := n) (by omega) hn
    have HC := Lib.hid (ih (n / 128) (by omega) (by omega) w)
    have hq : (n : Int) / 128 = ((n / 128 : Nat) : Int) := by omega
    have HE1 := Lib.hid e1
    have HE2 := Lib.hid e2
    obtain ⟨y, hy⟩ : ∃ y, y = n / 128 % 128 := ⟨_, rfl⟩
    have hyl : y < 128 := by omega
    rw [← hy] at HE1 HE2
    obtain ⟨r, hr⟩ : ∃ r, r = n % 128 := ⟨_, rfl⟩
    have hrl : r < 128 := by omega
    rw [← hr] at HE2
    have hri : (n : Int) % 128 = (r : Int) := by omega
    have hw8 : IntKind.u8.wrap (r : Int) = (r : Int) := by simp [IntKind.wrap, IntKind.signed, IntKind.bits]; omega
    have hw9 : IntKind.u8.wrap ((y : Int) + 128) = (y : Int) + 128 := by simp [IntKind.wrap, IntKind.signed, IntKind.bits]; omega
    generalize n / 128 = m at *
    clear ih e1 e2 hy hr
    go_enter Tryz.func153, Tryz.ntmps153
    go_wp2_with fail
    refine HC.out.mono ?_
    rintro e w1 ⟨v, rfl, ho, F1⟩
    obtain ⟨a, l, c, rfl, rfl⟩ := own_shape ho
    rw [HE1.out] at ho
    have hbl : (base128 m).length = front.length + 1 := by rw [HE1.out]; simp
    rw [hbl]
    have hcells : Lib.byteCells (front ++ [UInt8.ofNat y]) = Lib.byteCells front ++ [.int .u8 y] := by
      have := u8 y (by omega)
      simp [Lib.byteCells, this]
    have hlen : (front ++ [UInt8.ofNat y]).length = front.length + 1 := by simp
    rw [hlen, hcells] at ho
    obtain ⟨g, rfl, hg1, hg2, -, hlc, hcm, hfz, hcell, hset, F2⟩ := own_set ho front.length (by omega) (.int .u8 ((y : Int) + 128))
    have hfl : (Lib.byteCells front).length = front.length := byteCells_len front
    rw [List.getElem?_append_right (by omega), hfl, Nat.sub_self] at hcell
    simp only [List.getElem?_cons_zero] at hcell
    have hcells2 : (Lib.byteCells front ++ [Value.int .u8 y]).set front.length (.int .u8 ((y : Int) + 128)) = Lib.byteCells (front ++ [UInt8.ofNat (y + 128)]) := by
      have := u8 (y + 128) (by omega)
      rw [List.set_append_right _ _ (by omega), hfl, Nat.sub_self]
      simp [Lib.byteCells, this]
      try omega
    rw [hcells2] at hset
    have HSET := Lib.hid hset
    have HF2 := Lib.hid (F1.trans' F2 (fun i hi e => by omega))
    have hi1 : ((front.length + 1 : Nat) : Int) - 1 = (front.length : Int) := by omega
    have hln : front.length < 1000 := by
      have : (base128 m).length ≤ 6 := by
        unfold base128
        have h5 := up7_len 5 (m / 128)
        simp only [List.length_reverse, List.length_cons]
        omega
      omega
    clear ho hset F1 F2 HC hcells hcells2 hlen hbl hfl
    go_upto_region 5 with fail
    generalize (w1.setCell ⟨g, front.length, none⟩ (.int .u8 ((y : Int) + 128))) = w2 at *
    have BX := Blk.new w2 5 #[.int .u8 r]
    have F3 : Fr (fun _ => False) w2 (w2.alloc (.cells #[.int .u8 r] 5)) := (Fr.refl w2).alloc _
    have hsrc : Bytes (w2.alloc (.cells #[.int .u8 r] 5)) (.slice (some ⟨w2.heap.size, 0, none⟩) 1 1) [UInt8.ofNat r] := by
      have e8 := u8 r (by omega)
      have BX' : Blk (w2.alloc (.cells #[.int .u8 r] 5)) w2.heap.size 5 (Lib.byteCells [UInt8.ofNat r]).toArray := by
        simpa [Lib.byteCells, e8] using BX
      exact Vals.of_block BX' (by simp [Lib.byteCells]; unfold maxLen; omega)
    have hs2 := HF2.out.size
    obtain ⟨v4, w4, hr4, ho4, F4, _⟩ := append_bytes (ownsRow_fr HSET.out F3 (fun _ _ h => h)) (some ⟨w2.heap.size, 0, none⟩) 1 1 [UInt8.ofNat r] hsrc (by omega) (Nat.le_trans hs2 F3.size)
    have hvb := (Vals.of_own HSET.out).2
    have HF4 := Lib.hid ((HF2.out.trans F3).trans' F4 (fun i hi e => by have := hvb i e; omega))
    obtain ⟨a4, c4, rfl, -⟩ := (Vals.of_own ho4).1
    rw [← HE2.out] at ho4 hr4
    have hbn : (base128 n).length = front.length + 1 + 1 := by rw [HE2.out]; simp
    rw [← hbn] at ho4
    have HO4 := Lib.hid ho4
    have HRUN := Lib.hid hr4
    clear ho4 hr4 F4 F3 hvb BX hsrc hbn HF2 HSET
    go_wp2_with (at_builtin; refine wpList_append_run (by rfl) (.tmp 24) (.tmp 28) 22 (by rfl) _ w4 (by exact HRUN.out) ?_)
    exact bodyPost_ret (v := .slice a4 (Lib.byteCells (base128 n)).length c4) (by simp [results, Tryz.results153, go_sem]) rfl ⟨_, rfl, HO4.out, HF4.out⟩
set_option maxRecDepth 20000 in
set_option maxHeartbeats 2000000 in
theorem r04Contents_any (v : Value) (o : List Int) (w : World) (h : Ints w v o) (ho : oidOk o = true) :
    Calls Tryz.prog 119 #[v] w fun e w' => ∃ v', e = .returned v' ∧ w'.ownsRow w.heap.size 5 1 v' (oidBytes o).length (Lib.byteCells (oidBytes o)) ∧ Fr (fun _ => False) w w' := by
  obtain ⟨hnm, hol, hol2, hno⟩ := nums_ok ho
  obtain ⟨a, cap, rfl, -, -, hx⟩ := Ints.form h
  obtain ⟨b, off, rfl, hy⟩ := hx (by omega)
  obtain ⟨x0, hx0⟩ : ∃ x, o[0]? = some x := ⟨_, List.getElem?_eq_getElem (by omega)⟩
  obtain ⟨x1, hx1⟩ : ∃ x, o[1]? = some x := ⟨_, List.getElem?_eq_getElem (by omega)⟩
  have e0 := hy 0 x0 hx0
  have e1 := hy 1 x1 hx1
  obtain ⟨N, hN⟩ : ∃ N, N = numsS o := ⟨_, rfl⟩
  have hN0 : N[0]? = some (40 * x0 + x1) := by rw [hN]; simp [numsS, List.getD, hx0, hx1]
  have hNs : ∀ i, N[i + 1]? = o[i + 2]? := fun i => by
    rw [hN]
    simp only [numsS, List.getElem?_cons_succ, List.getElem?_drop]
    congr 1
    omega
  have hob : oidBytes o = N.flatMap fun n => base128 n.toNat := by rw [hN]; rfl
  rw [← hN] at hnm hno
  rw [hob]
  have h0 := hno _ (List.mem_of_getElem? hN0)
  obtain ⟨m, hm⟩ : ∃ m : Nat, 40 * x0 + x1 = (m : Int) := ⟨(40 * x0 + x1).toNat, by omega⟩
  have hml : m ≤ 2147483647 := by omega
  have hft1 : ((N.take 1).flatMap fun n => base128 n.toNat) = base128 m := by
    have : N.take 1 = [(m : Int)] := by
      rw [show (1 : Nat) = 0 + 1 from rfl, List.take_add_one, hN0, hm]
      rfl
    rw [this]
    simp
  have hwm : 40 * x0 ≤ 4611686018427387904 ∧ -4611686018427387904 ≤ 40 * x0 := by
    have g : ∀ i, i < o.length → arcOk (o.getD i 0) = true := fun i hi => by
      simp only [oidOk, Bool.and_eq_true, decide_eq_true_eq] at ho
      rw [List.getD_eq_getElem?_getD, List.getElem?_eq_getElem hi]
      exact List.all_eq_true.1 ho.1.2 _ (List.getElem_mem hi)
    have g0 := g 0 (by omega)
    simp only [arcOk, List.getD, hx0, Option.getD_some, decide_eq_true_eq] at g0
    omega
  obtain ⟨M, hM⟩ : ∃ M, M = (N.flatMap fun n => base128 n.toNat).length := ⟨_, rfl⟩
  rw [← hM]
  have HM := Lib.hid hM
  clear hM
  have HY := Lib.hid hy
  have HNO := Lib.hid hno
  have HNS := Lib.hid hNs
  have HFT1 := Lib.hid hft1
  have r2 : ¬ (o.length : Int) < 2 := by omega
  have r0 : (0 : Int) < (o.length : Int) := by omega
  have r1 : (1 : Int) < (o.length : Int) := by omega
  have r0N : 0 < o.length := by omega
  have r1N : 1 < o.length := by omega
  have hw1 : IntKind.i64.wrap (40 * x0) = 40 * x0 := by simp [IntKind.wrap, IntKind.signed, IntKind.bits]; omega
  have hw2 : IntKind.i64.wrap (m : Int) = (m : Int) := by simp [IntKind.wrap, IntKind.signed, IntKind.bits]; omega
  simp only [Nat.add_zero] at e0
  have G : Fr (fun _ => False) w w.drew := (Fr.refl w).drew
  clear h hx hy hx0 hx1 hN0 hNs hN hob h0 hno hft1 ho
  go_enter Tryz.func119, Tryz.ntmps119
  go_upto_region 3 with fail
  have E0 : w.drew.cell? ⟨b, off, none⟩ = some (.int .i64 x0) := e0
  have E1 : w.drew.cell? ⟨b, off + 1, none⟩ = some (.int .i64 x1) := e1
  go_region_held3 (fun w' => w'.cell? ⟨b, off, none⟩ = some (.int .i64 x0) ∧ w'.cell? ⟨b, off + 1, none⟩ = some (.int .i64 x1)) (exact ⟨E0, E1⟩) (first | (go_at_call 153; (try rw [hw2]); refine (r04digits_any m hml _).mono ?_; rintro e w' ⟨v, rfl, hv, F⟩; obtain ⟨av, mv, cv, rfl, rfl⟩ := own_shape hv; replace E0 := F.cell E0 (fun h => h); replace E1 := F.cell E1 (fun h => h); replace G := G.trans F))
  all_goals
    rw [World.size_drew] at hv
    have HV := Lib.hid hv
    have HG0 := Lib.hid G
    obtain ⟨L0, hL0⟩ : ∃ L0, L0 = (base128 m).length := ⟨_, rfl⟩
    rw [← hL0] at HV ⊢
    have HL0 := Lib.hid hL0
    clear hv G F E0 E1 e0 e1 hL0
    go_wp2_with fail
    go_loopg [3, 4] (o.length - 1) (fun g u i wr => ∃ (j : Nat) (L : Nat) (a1 : Option Addr) (c1 : Nat), g = o.length - j ∧ 1 ≤ j ∧ j + 1 ≤ o.length ∧ u = .slice a1 L c1 ∧ i = .int .i64 ((j : Int) + 1) ∧ L = ((N.take j).flatMap fun n => base128 n.toNat).length ∧ wr.ownsRow w.heap.size 5 1 (.slice a1 L c1) L (Lib.byteCells ((N.take j).flatMap fun n => base128 n.toNat)) ∧ Fr (fun _ => False) w wr)
    case atStart => exact ⟨1, L0, av, cv, rfl, Nat.le_refl _, by omega, rfl, rfl, by rw [HFT1.out, HL0.out], by rw [HFT1.out]; exact HV.out, HG0.out⟩
    case round =>
      obtain ⟨j, L, a1, c1, hg, hj1, hj2, rfl, rfl, hL, ho1, F1⟩ := hrel
      have HG := Lib.hid hg
      have HO1 := Lib.hid ho1
      have HF1 := Lib.hid F1
      have HL := Lib.hid hL
      have hLl : L ≤ 2000 := by
        have h1 := flat128_len (N.take j)
        rw [← hL, List.length_take] at h1
        omega
      clear hg ho1 hL
      by_cases hjl : j + 1 < o.length
      · obtain ⟨x, hxj⟩ : ∃ x, o[j + 1]? = some x := ⟨_, List.getElem?_eq_getElem hjl⟩
        have ex := F1.cell (HY.out (j + 1) x hxj) (fun h => h)
        have hNj : N[j]? = some x := by
          have := HNS.out (j - 1)
          rw [show j - 1 + 1 = j from by omega, show j - 1 + 2 = j + 1 from by omega, hxj] at this
          exact this
        have hxb := HNO.out x (List.mem_of_getElem? hNj)
        obtain ⟨y, hyx⟩ : ∃ y : Nat, x = (y : Int) := ⟨x.toNat, by omega⟩
        subst hyx
        have hft : ((N.take (j + 1)).flatMap fun n => base128 n.toNat) = ((N.take j).flatMap fun n => base128 n.toNat) ++ base128 y := by
          rw [List.take_add_one, hNj]
          simp
        have HFT := Lib.hid hft
        have q1 : (0 : Int) ≤ (j : Int) + 1 := by omega
        have q2 : (j : Int) + 1 < (o.length : Int) := by omega
        have hin : ((j : Int) + 1).toNat = j + 1 := by omega
        have HD := Lib.hid (r04digits_any y (by omega) wr)
        clear hxj hNj hft F1
        go_wp2_with fail
        refine HD.out.mono ?_
        rintro e w3 ⟨v3, rfl, ho3, F3⟩
        obtain ⟨a3, l3, c3, rfl, rfl⟩ := own_shape ho3
        have hs1 := HF1.out.size
        have hv3 := (Vals.of_own ho3).1
        have hbl := (base128_len y).1
        obtain ⟨v4, w4, hr4, ho4, F4, _⟩ := append_bytes (ownsRow_fr HO1.out F3 (fun _ _ h => h)) a3 (base128 y).length c3 (base128 y) hv3 (by omega) (Nat.le_trans hs1 F3.size)
        have hvb := (Vals.of_own HO1.out).2
        have HF4 := Lib.hid ((HF1.out.trans F3).trans' F4 (fun i hi e => by have := hvb i e; omega))
        obtain ⟨a4, m4, c4, rfl, rfl⟩ := own_shape ho4
        rw [← HFT.out] at ho4
        have HO4 := Lib.hid ho4
        have HRUN := Lib.hid hr4
        clear ho4 hr4 F4 F3 hvb ho3 hv3 HO1 HF1
        go_wp2_with (at_builtin; refine wpList_append_run (by rfl) (.tmp 23) (.tmp 28) 22 (by rfl) _ w4 (by exact HRUN.out) ?_)
        go_roundg (o.length - (j + 1))
        case measure => rw [HG.out]; omega
        case rel => exact ⟨j + 1, L + (base128 y).length, a4, c4, rfl, by omega, by omega, rfl, by go_num, by rw [HFT.out, List.length_append, ← HL.out], HO4.out, HF4.out⟩
      · have q2 : ¬ (j : Int) + 1 < (o.length : Int) := by omega
        have hall : N.take j = N := List.take_of_length_le (by omega)
        have hlo := HL.out
        have ho1 := HO1.out
        rw [hall] at hlo ho1
        have HO2 := Lib.hid ho1
        have HLO := Lib.hid hlo
        clear hall hlo ho1 HO1 HL
        go_wp2_with fail
        exact bodyPost_ret (v := .slice a1 L c1) (by simp [results, Tryz.results119, go_sem]) rfl ⟨_, rfl, by rw [HM.out, ← HLO.out]; exact HO2.out, HF1.out⟩
set_option maxRecDepth 20000 in
set_option maxHeartbeats 2000000 in
theorem r04Whole_any (v : Value) (o : List Int) (w : World) (h : Ints w v o) (ho : oidOk o = true) :
    Calls Tryz.prog 84 #[v] w fun e w' => ∃ v', e = .returned v' ∧ w'.ownsRow w.heap.size 5 1 v' (oidWhole o).length (Lib.byteCells (oidWhole o)) ∧ Fr (fun _ => False) w w' := by
  have hol := oidBytes_len (nums_ok ho).2.1
  have HB := Lib.hid h
  have HO := Lib.hid ho
  clear h ho
  go_enter Tryz.func84, Tryz.ntmps84
  go_wp2_with fail
  refine (r02Of_any 6 w).mono ?_
  rintro e w1 ⟨rfl, F1⟩
  have HF1 := Lib.hid F1
  rw [show tagV (tagOf 6) = .agg #[.int .i64 0, .int .i64 6, .bool false] from rfl]
  clear F1
  go_wp2_with fail
  refine (r04Contents_any v o w1 (HB.out.old HF1.out) HO.out).mono ?_
  rintro e w2 ⟨v2, rfl, ho2, F2⟩
  have hB2 := (Vals.of_own ho2).1
  obtain ⟨a2, c2, rfl, -⟩ := hB2.form
  have HB2 := Lib.hid hB2
  have HF2 := Lib.hid (HF1.out.trans F2)
  clear ho2 hB2 F2
  go_wp2_with fail
  refine (r02Wrap_any (tagOf 6) (good_of (by omega) (by omega)) _ (oidBytes o) w2 HB2.out (by omega)).mono ?_
  rintro e w3 ⟨v3, rfl, ho3, F3⟩
  obtain ⟨a3, m3, c3, rfl, rfl⟩ := own_shape ho3
  have HO3 := Lib.hid (own_le ho3 HF2.out.size)
  have HF3 := Lib.hid (HF2.out.trans F3)
  clear ho3 F3
  go_wp2_with fail
  exact bodyPost_ret (v := .slice a3 _ c3) (by simp [results, Tryz.results84, go_sem]) rfl ⟨_, rfl, HO3.out, HF3.out⟩
end Go.Proofs.YthjcoolefboodaaGreatDoor

namespace Go.Q
open Go Go.RowKit
end Go.Q
namespace Go.Proofs.YthjcoolefboodaaGreatDoor
open Go Go.RowKit Go.Q
end Go.Proofs.YthjcoolefboodaaGreatDoor

namespace Go.Q
open Go Go.RowKit
abbrev BldAt (w : World) (base b : Nat) (l : List UInt8) : Prop := Lib.IsBuilder 181 5 base b (Lib.byteCells l) w
theorem BldAt.old {w w' : World} {base b : Nat} {l : List UInt8} (h : BldAt w base b l) (f : Fr (fun _ => False) w w') : BldAt w' base b l := by
  have g : ∀ p, Lib.BuilderAt 181 5 base b p (Lib.byteCells l) w → Lib.BuilderAt 181 5 base b p (Lib.byteCells l) w' := by
    rintro p ⟨hB, v, hb, hown, hne⟩
    exact ⟨hB, v, (f.block b (Array.getElem?_eq_some_iff.1 hb).1 (fun h => h)).trans hb, Go.Proofs.YthjcoolefboodaaGreatDoor.ownsRow_fr hown f (fun _ _ h => h), hne⟩
  rcases h with h | h
  · exact .inl (g _ h)
  · exact .inr (g _ h)
theorem BldAt.new (w : World) : BldAt (w.alloc (.cells #[.pointer none, .slice none 0 0] 181)) w.heap.size w.heap.size [] :=
  .inl ⟨Nat.le_refl _, .slice none 0 0, Blk.new w _ _, ⟨rfl, .inl ⟨rfl, rfl⟩⟩, by simp [Value.ownBlock]⟩
theorem Fr.of_below_at {B : Nat} {w w' : World} (h : Below B w w') : Fr (fun k => B ≤ k) w w' := ⟨h.os, h.tape, h.output, h.size, fun k _ hk => h.block k (by omega)⟩
end Go.Q
namespace Go.Proofs.YthjcoolefboodaaGreatDoor
open Go Go.RowKit Go.Q
abbrev Pows (w : World) : Prop := Lib.TabIs Tryz.prog w "internal/strconv.uint64pow10" .u64 Lib.pow10Tab
theorem Pows.fr {S : Nat → Prop} {w w' : World} (h : Pows w) (f : Fr S w w') (hS : ¬ S 1) : Pows w' := by
  have hg : Tryz.prog.globalNamed "internal/strconv.uint64pow10" = some 1 := by kernel_rfl
  unfold Pows Lib.TabIs at *
  rw [← h]
  unfold World.var? at *
  rw [hg] at h ⊢
  simp only [Option.bind_some] at h ⊢
  have hlt : 1 < w.heap.size := by
    rcases Nat.lt_or_ge 1 w.heap.size with h1 | h1
    · exact h1
    · rw [Array.getElem?_eq_none h1] at h; cases h
  rw [f.block _ hlt hS]
theorem Pows.old {w w' : World} (h : Pows w) (f : Fr (fun _ => False) w w') : Pows w' := h.fr f (fun h => h)
set_option maxRecDepth 100000 in
theorem bldCheck_any {w : World} {base b : Nat} {l : List UInt8} (h : BldAt w base b l) :
    Calls Tryz.prog 144 #[pt b] w fun e w' => e = .returned (.tuple #[]) ∧ Lib.BuilderAt 181 5 base b (pt b) (Lib.byteCells l) w' ∧ Below base w w' := by
  have hsz : (Tryz.prog.info? 181).map (·.size) = some 2 := by kernel_rfl
  obtain ⟨j, hj, hjs⟩ := Option.map_eq_some_iff.1 hsz
  rcases h with h | h
  · have h0 := h.cell0
    have hsh := h.shape
    have hfz := h.frozen0
    have H := Lib.hid h
    clear h hsz
    have hl : liesAt Tryz.prog Tryz.prog.depth 181 (2 / Tryz.prog.cellsOf 181) 0 181 1 = true := by kernel_rfl
    have r1 := Lib.run_to_unsafe (P := Tryz.prog) w ⟨b, 0, none⟩ Tryz.underlying179 Tryz.underlying262 hj (by rw [hjs]; decide) hsh (Nat.zero_lt_succ 1)
    have r3 := Lib.run_from_unsafe (P := Tryz.prog) w ⟨b, 0, none⟩ Tryz.underlying262 Tryz.underlying179 hj hsh hl
    have r2 : (callFunc 183 #[.pointer (some ⟨b, 0, none⟩)]).run Tryz.prog w = .ok (.value (.pointer (some ⟨b, 0, none⟩))) w := by
      rw [run_callFunc_extern Tryz.func183 (by kernel_rfl) (by kernel_rfl) (by kernel_rfl) (e := Extern.AbiNoEscape.same) (by kernel_rfl), Lib.run_noEscape]
      rfl
    go_enter Tryz.func144, Tryz.ntmps144
    go_wp2
    go_end0
    exact ⟨rfl, H.out.used _, (Below.refl base w).setCell (p := ⟨b, 0, none⟩) H.out.1 _⟩
  · have h0 := h.cell0
    have H := Lib.hid h
    have r1 := Lib.run_neq_ptr_same (P := Tryz.prog) w (tp := 179) ⟨b, 0, none⟩ Tryz.underlying179 hj
    clear h hsz
    go_enter Tryz.func144, Tryz.ntmps144
    go_wp2
    go_end0
    exact ⟨rfl, H.out, Below.refl base w⟩
theorem info_u8 : (Tryz.prog.info? 5).map (fun i => (i.zero, i.size, i.bytes)) = some (some (.int .u8 0), 1, 1) := by kernel_rfl
theorem bld_put {w w2 : World} {base b : Nat} {l m : List UInt8} {v v' : Value} (hB : base ≤ b) (hbk : w.heap[b]? = some (.cells #[pt b, v] 181 (0, 0))) (hne : v.ownBlock ≠ some b) (F : Fr (fun k => v.ownBlock = some k) w w2) (hown : w2.ownsRow base 5 1 v' (l ++ m).length (Lib.byteCells (l ++ m))) :
    w2.heap[b]? = some (.cells #[pt b, v] 181 (0, 0)) ∧ BldAt (w2.setCell ⟨b, 1, none⟩ v') base b (l ++ m) := by
  have hb2 : w2.heap[b]? = some (.cells #[pt b, v] 181 (0, 0)) := (F.block b (Array.getElem?_eq_some_iff.1 hbk).1 hne).trans hbk
  exact ⟨hb2, .inr (Lib.BuilderAt.put (T := 181) (e := 5) hB hb2 (bs' := Lib.byteCells (l ++ m)) (by rw [byteCells_len]; exact hown) (by decide))⟩
set_option maxRecDepth 100000 in
theorem bldByte_any {w : World} {base b : Nat} {l : List UInt8} (c : UInt8) (h : BldAt w base b l) (hl : l.length ≤ 109951162777) (hbw : base ≤ w.heap.size) :
    Calls Tryz.prog 166 #[pt b, .int .u8 c.toNat] w fun e w' => e = .returned .nilIface ∧ BldAt w' base b (l ++ [c]) ∧ Below base w w' := by
  have HC := Lib.hid (bldCheck_any h)
  clear h
  go_enter Tryz.func166, Tryz.ntmps166
  go_wp2_with fail
  refine HC.out.mono ?_
  rintro e w1 ⟨rfl, ⟨hB, v, hbk, hown, hne⟩, hb1⟩
  rw [byteCells_len] at hown
  have c1 : w1.cell? ⟨b, 1, none⟩ = some v := by rw [Lib.cell_of_heap hbk]; rfl
  have F1 : Fr (fun _ => False) w1 (w1.alloc (.cells #[.int .u8 c.toNat] 5)) := (Fr.refl w1).alloc _
  have hs1 := hb1.size
  obtain ⟨a', c', w2, hrun, hown2, F2, hk2⟩ := add_gen Tryz.underlying22 info_u8 rfl (by decide) (by decide) hown (by omega) F1 w1.heap.size [.int .u8 c.toNat] rfl (Blk.new w1 5 #[.int .u8 c.toNat]) (by simp [Value.oneCell']) (by omega)
  have hown2' : w2.ownsRow base 5 1 (.slice a' (l.length + 1) c') (l ++ [c]).length (Lib.byteCells (l ++ [c])) := by
    rw [byteCells_append, List.length_append]
    exact hown2
  obtain ⟨hb2, hat⟩ := bld_put hB hbk hne F2 hown2'
  have HRUN := Lib.hid hrun
  have HAT := Lib.hid hat
  have d1 : w2.cell? ⟨b, 1, none⟩ = some v := by rw [Lib.cell_of_heap hb2]; rfl
  have f1 : w2.frozen? ⟨b, 1, none⟩ = false := Lib.frozen_of_heap hb2 1
  have hvb := (Vals.of_own hown).2
  have HBL := Lib.hid ((hb1.trans (Fr.below (B := base) F2 (by omega) (fun i hi e => by have := (hvb i e).1; omega))).setCell (p := ⟨b, 1, none⟩) hB (.slice a' (l.length + 1) c'))
  clear HC hbk hown F1 F2 hrun hown2 hown2' hb2 hat hk2 hb1 hne hvb
  go_wp2_with (at_builtin; refine wpList_append_run (by rfl) (.tmp 11) (.tmp 13) 22 (by rfl) _ w2 (by exact HRUN.out) ?_)
  go_ret
  exact ⟨rfl, HAT.out, HBL.out⟩
set_option maxRecDepth 100000 in
theorem bldString_any {w : World} {base b : Nat} {l : List UInt8} (m : List UInt8) (h : BldAt w base b l) (hl : l.length + m.length ≤ 1099511627776) (hbw : base ≤ w.heap.size) :
    Calls Tryz.prog 108 #[pt b, str m] w fun e w' => e = .returned (.tuple #[.int .i64 m.length, .nilIface]) ∧ BldAt w' base b (l ++ m) ∧ Below base w w' := by
  have HC := Lib.hid (bldCheck_any h)
  obtain ⟨i0, hi, hz0, hz1, hz2⟩ := info_parts info_u8
  have hms : (ByteArray.mk m.toArray).size = m.length := by simp [ByteArray.size]
  clear h
  go_enter Tryz.func108, Tryz.ntmps108
  go_wp2_with fail
  refine HC.out.mono ?_
  rintro e w1 ⟨rfl, ⟨hB, v, hbk, hown, hne⟩, hb1⟩
  rw [byteCells_len] at hown
  have c1 : w1.cell? ⟨b, 1, none⟩ = some v := by rw [Lib.cell_of_heap hbk]; rfl
  have hs1 := hb1.size
  go_wp2_with (at_builtin; refine Lib.wpList_append_own_string _ (by rfl) (.tmp 12) (.tmp 13) 22 9 (by rfl) base 5 i0 Tryz.underlying22 Tryz.underlying9 hi hz0 hz1 hz2 _ _ _ (by rfl) hown ⟨m.toArray⟩ (by rfl) ?c3 ?c4 ?c5 ?_)
  case c3 => rw [hms]; unfold maxLen; omega
  case c4 => rw [hms]; omega
  case c5 => omega
  intro v' w2 hown2 hgrow _
  have F2 := Fr.of_grown hgrow
  have hsc : Lib.strCells ⟨m.toArray⟩ = Lib.byteCells m := rfl
  have hown2' : w2.ownsRow base 5 1 v' (l ++ m).length (Lib.byteCells (l ++ m)) := by
    rw [byteCells_append, List.length_append, ← hsc, ← hms]
    exact hown2
  obtain ⟨hb2, hat⟩ := bld_put hB hbk hne F2 hown2'
  have HAT := Lib.hid hat
  have d1 : w2.cell? ⟨b, 1, none⟩ = some v := by rw [Lib.cell_of_heap hb2]; rfl
  have f1 : w2.frozen? ⟨b, 1, none⟩ = false := Lib.frozen_of_heap hb2 1
  have hvb := (Vals.of_own hown).2
  have HBL := Lib.hid ((hb1.trans (Fr.below (B := base) F2 (by omega) (fun i hi e => by have := (hvb i e).1; omega))).setCell (p := ⟨b, 1, none⟩) hB v')
  have HMS := Lib.hid hms
  obtain ⟨ao, n', cap, rfl, hnn⟩ := own_shape hown2
  have HNN := Lib.hid hnn
  clear HC hbk hown F2 hown2 hown2' hb2 hat hb1 hne hvb hgrow hsc hms hnn hi hz0 hz1 hz2
  go_wp2_with fail
  go_ret2
  exact ⟨by rw [← HMS.out]; rfl, HAT.out, HBL.out⟩
theorem bldOut_any {w : World} {base b : Nat} {l : List UInt8} (h : BldAt w base b l) (hbw : base ≤ w.heap.size) :
    Calls Tryz.prog 109 #[pt b] w fun e w' => e = .returned (str l) ∧ Below base w w' :=
  Go.Proofs.Tryz.Builder_String_any base b l w h hbw
theorem itoa_any (n : Int) (h0 : -9223372036854775808 ≤ n) (h1 : n ≤ 9223372036854775807) (w : World) (hP : Pows w) :
    Calls Tryz.prog 167 #[.int .i64 n] w fun e w' => e = .returned (str (Lib.itoa n)) ∧ Fr (fun _ => False) w w' := by
  refine (Go.Proofs.Tryz.strconv_Itoa n h0 h1 w hP).mono ?_
  rintro e w' ⟨rfl, k, os, rfl⟩
  exact ⟨rfl, rfl, rfl, rfl, by simp [Sort.grow], fun i hi _ => by simp [Sort.grow, Array.getElem?_append_left hi]⟩
end Go.Proofs.YthjcoolefboodaaGreatDoor

namespace Go.Q
open Go Go.RowKit
def gLim : Nat := max (max 2 3) (max 1 0) + 1
structure Env (w : World) : Prop where
  tabs : Tabs w
  pows : Go.Proofs.YthjcoolefboodaaGreatDoor.Pows w
  top : ∃ m, w.cell? ⟨0, 0, none⟩ = some (.int .i64 m)
  size : gLim ≤ w.heap.size
theorem Env.fr {S : Nat → Prop} {w w' : World} (h : Env w) (f : Fr S w w') (hS : ∀ k, k < gLim → ¬ S k) : Env w' :=
  ⟨h.tabs.fr f (hS _ (by decide)) (hS _ (by decide)), h.pows.fr f (hS _ (by decide)), by
    obtain ⟨m, hm⟩ := h.top
    exact ⟨m, f.cell hm (hS 0 (by decide))⟩, Nat.le_trans h.size f.size⟩
theorem Env.old {w w' : World} (h : Env w) (f : Fr (fun _ => False) w w') : Env w' := h.fr f (fun _ _ h => h)
theorem Env.below {w w' : World} {B : Nat} (h : Env w) (f : Below B w w') (hB : gLim ≤ B) : Env w' := h.fr (Fr.of_below_at f) (fun k hk e => by omega)
def oidTextS : List Int → List UInt8
  | [] => []
  | n :: t => Lib.itoa n ++ t.flatMap (fun m => 46 :: Lib.itoa m)
theorem oidText_first {o : List Int} {n : Int} (h : o[0]? = some n) : oidTextS (o.take 1) = Lib.itoa n := by
  cases o with
  | nil => cases h
  | cons x t => simp at h; subst h; simp [oidTextS]
theorem oidText_next {o : List Int} {j : Nat} {n : Int} (h : o[j + 1]? = some n) : oidTextS (o.take (j + 1 + 1)) = oidTextS (o.take (j + 1)) ++ [46] ++ Lib.itoa n := by
  cases o with
  | nil => cases h
  | cons x t =>
    rw [List.getElem?_cons_succ] at h
    have e : t.take (j + 1) = t.take j ++ [n] := by rw [List.take_add_one, h]; rfl
    rw [List.take_succ_cons, List.take_succ_cons, e]
    simp [oidTextS]
theorem nDigits_le : ∀ (k u : Nat), u < 10 ^ (k + 1) → Lib.nDigits u ≤ k + 1
  | 0, u, h => by rw [Lib.nDigits_small (by simpa using h)]; exact Nat.le_refl _
  | k + 1, u, h => by
    by_cases hu : u < 10
    · rw [Lib.nDigits_small hu]; omega
    · rw [Lib.nDigits_big hu]
      have := nDigits_le k (u / 10) (by rw [Nat.pow_succ] at h; omega)
      omega
theorem itoa_len {n : Int} (h0 : 0 ≤ n) (h1 : n ≤ 9223372036854775807) : (Lib.itoa n).length ≤ 20 := by
  unfold Lib.itoa
  rw [if_neg (by omega), Lib.decDigits_length]
  exact nDigits_le 19 n.toNat (by
    have e : (10 : Nat) ^ (19 + 1) = 100000000000000000000 := by decide
    rw [e]
    omega)
theorem oidText_len {o : List Int} (h : ∀ n ∈ o, 0 ≤ n ∧ n ≤ 9223372036854775807) : (oidTextS o).length ≤ 21 * o.length := by
  have g : ∀ t : List Int, (∀ n ∈ t, 0 ≤ n ∧ n ≤ 9223372036854775807) → (t.flatMap (fun m => 46 :: Lib.itoa m)).length ≤ 21 * t.length := by
    intro t
    induction t with
    | nil => intro _; simp
    | cons x t ih =>
      intro h
      have h1 := itoa_len (h x (by simp)).1 (h x (by simp)).2
      have h2 := ih (fun n hn => h n (by simp [hn]))
      simp only [List.flatMap_cons, List.length_append, List.length_cons] at h2 ⊢
      omega
  cases o with
  | nil => simp [oidTextS]
  | cons x t =>
    have h1 := itoa_len (h x (by simp)).1 (h x (by simp)).2
    have h2 := g t (fun n hn => h n (by simp [hn]))
    simp only [oidTextS, List.length_append, List.length_cons]
    omega
end Go.Q
namespace Go.Proofs.YthjcoolefboodaaGreatDoor
open Go Go.RowKit Go.Q
set_option maxRecDepth 20000 in
set_option maxHeartbeats 1000000 in
theorem oidText_any (v : Value) (o : List Int) (w : World) (h : Ints w v o) (ho : oidOk o = true) (hE : Env w) :
    Calls Tryz.prog 139 #[v] w fun e w' => e = .returned (.tuple #[str (oidTextS o), .int .i64 0]) ∧ Fr (fun _ => False) w w' := by
  have H := Lib.hid h
  have HE := Lib.hid hE
  have hR := Lib.hid (oidRight_any v o w h)
  rw [ho] at hR
  obtain ⟨a, cap, rfl, -⟩ := Ints.form h
  have hok := ho
  simp only [oidOk, Bool.and_eq_true, decide_eq_true_eq] at hok
  obtain ⟨⟨⟨hl1, hl2⟩, hall⟩, -⟩ := hok
  have harc : ∀ n ∈ o, 0 ≤ n ∧ n ≤ 9223372036854775807 := fun n hn => by
    have := List.all_eq_true.1 hall n hn
    simp only [arcOk, decide_eq_true_eq] at this
    omega
  have HA := Lib.hid harc
  have HBN := Lib.hid (BldAt.new w)
  obtain ⟨z, hz⟩ : ∃ z, z = w.heap.size := ⟨_, rfl⟩
  have F0 : Fr (fun _ => False) w (w.alloc (.cells #[.pointer none, .slice none 0 0] 181)) := (Fr.refl w).alloc _
  rw [← hz] at HBN
  have HZ := Lib.hid hz
  have HF0 := Lib.hid (F0.below (B := z) (by omega) (fun _ _ h => h))
  have hs0 := F0.size
  have hgl : gLim ≤ z := by rw [hz]; exact hE.size
  clear h hE ho hall harc hz F0
  go_enter Tryz.func139, Tryz.ntmps139
  go_wp2_with fail
  refine hR.out.mono ?_
  rintro e w' ⟨rfl, rfl⟩
  go_upto_region 4 with fail
  rw [← HZ.out]
  generalize (w.alloc (.cells #[.pointer none, .slice none 0 0] 181)) = w1 at *
  have HS0 := Lib.hid hs0
  rw [← HZ.out] at hs0
  go_wp2_with fail
  go_loopg [12] o.length (fun g i wr => ∃ j : Nat, g = o.length - j ∧ j ≤ o.length ∧ i = .int .i64 j ∧ BldAt wr z z (oidTextS (o.take j)) ∧ Below z w wr ∧ z ≤ wr.heap.size)
  case atStart => exact ⟨0, rfl, Nat.zero_le _, rfl, HBN.out, HF0.out, hs0⟩
  case round =>
    obtain ⟨j, hg, hj, rfl, hB, hBl, hsz⟩ := hrel
    have HG := Lib.hid hg
    have HB := Lib.hid hB
    have HBL := Lib.hid hBl
    clear hg hB hBl
    by_cases hjl : j < o.length
    · have hFr : Fr (fun k => z ≤ k) w wr := Fr.of_below_at HBL.out
      have hoff : Off (.slice a o.length cap) (intCells o).length (fun k => z ≤ k) := fun h0 k hk e => by
        have := H.out.lt h0 k hk
        have := HZ.out
        omega
      obtain ⟨a0, cap0, he, _, _, hx⟩ := Ints.form (H.out.fr hFr hoff)
      simp only [Value.slice.injEq, true_and] at he
      obtain ⟨rfl, rfl⟩ := he
      obtain ⟨b, off, rfl, hy⟩ := hx (by omega)
      obtain ⟨n, hn⟩ : ∃ n, o[j]? = some n := ⟨_, List.getElem?_eq_getElem hjl⟩
      have e1 := hy j n hn
      have hn0 := HA.out n (List.mem_of_getElem? hn)
      have hE1 := HE.out.below HBL.out hgl
      have hlen := oidText_len (o := o.take j) (fun m hm => HA.out m (List.mem_of_mem_take hm))
      rw [List.length_take] at hlen
      have r1 : (0 : Int) ≤ (j : Int) := by omega
      have r2 : (j : Int) < (o.length : Int) := by omega
      have HEN := Lib.hid hE1
      have HN := Lib.hid hn
      have hil := itoa_len hn0.1 hn0.2
      clear hx hy hn hFr hoff hE1
      cases j with
      | zero =>
        have hj0 : ¬ (0 : Int) < ((0 : Nat) : Int) := by omega
        have hft := Lib.hid (oidText_first HN.out)
        simp only [Nat.add_zero] at e1
        go_wp2_with fail
        refine (itoa_any n (by omega) hn0.2 wr HEN.out.pows).mono ?_
        rintro e w2 ⟨rfl, F2⟩
        have HB2 := Lib.hid (HB.out.old F2)
        have HBL2 := Lib.hid (HBL.out.trans (F2.below (B := z) hsz (fun _ _ h => h)))
        have hs2 := F2.size
        clear F2
        go_wp2_with fail
        refine (bldString_any _ HB2.out (by omega) (by omega)).mono ?_
        rintro e w3 ⟨rfl, hB3, hb3⟩
        have HB3 := Lib.hid hB3
        have hs3 := hb3.size
        have HBL3 := Lib.hid (HBL2.out.trans hb3)
        clear hB3 hb3
        go_wp2_with fail
        go_roundg (o.length - (0 + 1))
        case measure => rw [HG.out]; omega
        case rel => exact ⟨0 + 1, rfl, by omega, by go_num, by rw [show 0 + 1 = 1 from rfl, hft.out]; simpa [oidTextS] using HB3.out, HBL3.out, by omega⟩
      | succ k =>
        have hj0 : (0 : Int) < ((k + 1 : Nat) : Int) := by omega
        have hft := Lib.hid (oidText_next HN.out)
        go_wp2_with fail
        have hc46 : (46 : Int) = ((46 : UInt8).toNat : Int) := rfl
        refine (bldByte_any 46 HB.out (by omega) hsz).mono ?_
        rintro e w2 ⟨rfl, hB2, hb2⟩
        have HB2 := Lib.hid hB2
        have hs2 := hb2.size
        have HBL2 := Lib.hid (HBL.out.trans hb2)
        clear hB2 hb2
        go_wp2_with fail
        refine (itoa_any n (by omega) hn0.2 _ (HE.out.below HBL2.out hgl).pows).mono ?_
        rintro e w3 ⟨rfl, F3⟩
        have HB3 := Lib.hid (HB2.out.old F3)
        have HBL3 := Lib.hid (HBL2.out.trans (F3.below (B := z) (by omega) (fun _ _ h => h)))
        have hs3 := F3.size
        clear F3
        go_wp2_with fail
        refine (bldString_any _ HB3.out (by rw [List.length_append]; simp only [List.length_singleton]; omega) (by omega)).mono ?_
        rintro e w4 ⟨rfl, hB4, hb4⟩
        have HB4 := Lib.hid hB4
        have hs4 := hb4.size
        have HBL4 := Lib.hid (HBL3.out.trans hb4)
        clear hB4 hb4
        go_wp2_with fail
        go_roundg (o.length - (k + 1 + 1))
        case measure => rw [HG.out]; omega
        case rel => exact ⟨k + 1 + 1, rfl, by omega, by go_num, by rw [hft.out]; exact HB4.out, HBL4.out, by omega⟩
    · have hall : o.take j = o := List.take_of_length_le (by omega)
      have hB := HB.out
      rw [hall] at hB
      have HO := Lib.hid (bldOut_any hB hsz)
      clear hB hall
      go_wp2_with fail
      refine HO.out.mono ?_
      rintro e w2 ⟨rfl, hb2⟩
      have HF := Lib.hid (HBL.out.trans hb2)
      clear hb2
      go_wp2_with fail
      have hf := HF.out
      rw [HZ.out] at hf
      exact bodyPost_ret (v := .tuple #[str (oidTextS o), .int .i64 0]) (by simp [results, Tryz.results139, go_sem]) rfl ⟨rfl, Fr.of_below hf⟩
end Go.Proofs.YthjcoolefboodaaGreatDoor
