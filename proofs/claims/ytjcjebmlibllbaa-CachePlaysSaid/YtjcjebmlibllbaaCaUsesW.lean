/-
  The walk of CacheUses.
-/
import Derived.Test.YtjcjebmlibllbaaCaUsesS
import Derived.Test.YtjcjebmlibllbaaCaKnown
import Derived.Deep.DeepCutAuto
namespace Go.Proofs.Ytjcjebmlibllbaa
open Go Go.RowKit Go.Q

theorem rem5 (x : Int) : 0 ≤ wrap64 ((IntKind.u64.wrap x).tmod 5) ∧ wrap64 ((IntKind.u64.wrap x).tmod 5) ≤ 4 := by
  have h0 : 0 ≤ IntKind.u64.wrap x := by
    simp only [IntKind.wrap, IntKind.signed, IntKind.bits, Bool.false_and, Bool.false_eq_true, if_false]
    omega
  rw [Int.tmod_eq_emod_of_nonneg h0]
  unfold wrap64
  omega

theorem own_form {w : World} {base n : Nat} {e : TypeId} {v : Value} {xs : List Value} (h : w.ownsRow base e 1 v (n + 1) xs) : ∃ g c, v = .slice (some ⟨g, 0, none⟩) (n + 1) c ∧ n + 1 ≤ c := by
  rcases h.2 with ⟨_, h⟩ | ⟨g, cap, cur, rfl, _, _, hc, _⟩
  · omega
  · exact ⟨g, cap, rfl, hc⟩
theorem toList_same {a b : ByteArray} (h : a = b) : (a.toList == b.toList) = true := by rw [h]; simp
theorem toList_other {a b : ByteArray} (h : ¬ a = b) : (a.toList == b.toList) = false := by
  have : ¬ a.toList = b.toList := fun e => h (by
    rw [ByteArray.toList_eq, ByteArray.toList_eq] at e
    exact ByteArray.ext (Array.toList_inj.1 e))
  simpa using this

set_option maxRecDepth 100000 in
set_option maxHeartbeats 4000000 in
theorem uses_walk (room : Int) (sa : Option Addr) (b o len cap : Nat) (l : Nat → ByteArray) (w : World) (ha : 0 < len → sa = some ⟨b, o, none⟩) (hl : ∀ i, i < len → w.cell? ⟨b, o + i, none⟩ = some (.string (l i)) ∧ (l i).size ≤ maxLen) :
    Calls Try.prog 4 #[.int .i64 room, .slice sa len cap] w fun e w' => e = .returned (.bool true) ∧ Fr (fun _ => False) w w' := by
  have hR := rem5 room
  have HL := Lib.hid hl
  have HA := Lib.hid ha
  clear hl ha
  go_enter Try.func4, Try.ntmps4
  go_wp2_with fail
  obtain ⟨R, hRR⟩ : ∃ R, R = 1 + wrap64 ((IntKind.u64.wrap room).tmod 5) := ⟨_, rfl⟩
  have hR1 : 1 ≤ R := by omega
  have hR5 : R ≤ 5 := by omega
  rw [← hRR]
  clear hRR hR
  refine (new_away R w (by omega) (by omega)).mono ?_
  rintro e w1 ⟨rfl, A1, F1, z1⟩
  generalize w.heap.size + 2 = c at *
  have Z1 := Lib.hid z1
  clear z1
  go_wp2_with fail
  obtain ⟨nb, hnb⟩ : ∃ nb, nb = w1.heap.size := ⟨_, rfl⟩
  have Bw : Blk (w1.alloc (.cells #[.int .i64 0, .int .i64 1] 39)) nb 39 #[.int .i64 0, .int .i64 1] := by rw [hnb]; exact Blk.new w1 _ _
  have F2 : Fr (fun _ => False) w1 (w1.alloc (.cells #[.int .i64 0, .int .i64 1] 39)) := (Fr.refl w1).alloc _
  have A2 := A1.step (K' := fun k => k < w.heap.size ∨ k = nb ∨ (Value.slice none 0 0).ownBlock = some k) F2 (fun _ _ h => h.elim) (fun k h => by simp [Value.ownBlock] at h; omega)
  have G2 : Fr (fun k => ¬ k < w.heap.size) w (w1.alloc (.cells #[.int .i64 0, .int .i64 1] 39)) := (F1.trans F2).mono (fun _ _ h => h.elim)
  have hnw : w.heap.size ≤ nb := by rw [hnb]; exact F1.size
  rw [← hnb]
  clear hnb A1 F1 F2 Z1
  generalize (w1.alloc (.cells #[.int .i64 0, .int .i64 1] 39)) = w2 at *
  go_loopg [8, 9] 40 (fun g sl i wr => ∃ (k : Nat) (L : List Slot), g = 40 - k ∧ k ≤ len ∧ i = .int .i64 k ∧ Strs wr sl (keysOf L) ∧ Span01 L ∧ (L.length : Int) ≤ R ∧
      Away wr c (fun k => k < w.heap.size ∨ k = nb ∨ sl.ownBlock = some k) R L ∧ (∀ k, sl.ownBlock = some k → k < wr.heap.size ∧ w.heap.size ≤ k) ∧ Blk wr nb 39 #[.int .i64 0, .int .i64 1] ∧ Fr (fun k => ¬ k < w.heap.size) w wr)
  case atStart => exact ⟨0, [], rfl, Nat.zero_le _, rfl, ⟨none, 0, rfl, Nat.le_refl _, fun h => absurd h (Nat.lt_irrefl _)⟩, by intro x hx; simp at hx, by simp; omega, A2, by simp [Value.ownBlock], Bw, G2⟩
  case round =>
    obtain ⟨k, L, hgk, hk, rfl, hSt, hSp, hLR, A3, hob, B3, G3⟩ := hrel
    have HGK := Lib.hid hgk
    clear hgk
    obtain ⟨a8, c8, rfl, hc8, hx8⟩ := hSt
    obtain ⟨U, hU⟩ : ∃ U, U = keysOf L := ⟨_, rfl⟩
    rw [← hU] at hc8 hx8 A3 hob ⊢
    have HU := Lib.hid hU
    clear hU
    have HX8 := Lib.hid hx8
    clear hx8
    by_cases hlt : k < len ∧ k < 40
    · obtain ⟨hk1, hk2⟩ := hlt
      obtain rfl := HA.out (by omega)
      have hlk := HL.out k hk1
      have hcell := G3.cell hlk.1 (fun h => h (World.block_lt_of_cell? w _ hlk.1))
      have hsz := hlk.2
      generalize l k = key0 at *
      clear hlk
      have q1 : (0 : Int) ≤ (k : Int) := by omega
      have q2 : (k : Int) < (len : Int) := by omega
      unfold maxLen at hsz
      go_upto_region 10 with fail
      go_cut [10] (fun s10 wc => ∃ key n, s10 = .string key ∧ wc = wr.drewN n)
      case first =>
        go_quiet (fail)
        all_goals
          go_wp2_with fail
          all_goals
            go_meet
            exact ⟨_, nq, rfl, rfl⟩
      case rest =>
        obtain ⟨key, nq, rfl, rfl⟩ := hcut
        have A4 := A3.step (K' := fun k => k < w.heap.size ∨ k = nb ∨ (Value.slice a8 U.length c8).ownBlock = some k) ((Fr.refl wr).drewN (S := fun _ => False) nq) (fun _ _ h => h.elim) (fun _ h => .inl h)
        have hX4 : Strs (wr.drewN nq) (.slice a8 U.length c8) U := ⟨a8, c8, rfl, hc8, HX8.out⟩
        have B4 : Blk (wr.drewN nq) nb _ _ := B3.fr ((Fr.refl wr).drewN (S := fun _ => False) nq) (fun h => h)
        have G4 := G3.drewN nq
        have hob4 : ∀ k, (Value.slice a8 U.length c8).ownBlock = some k → k < (wr.drewN nq).heap.size ∧ w.heap.size ≤ k := hob
        have hK4 : ∀ k, (k < w.heap.size ∨ k = nb ∨ (Value.slice a8 U.length c8).ownBlock = some k) → k < (wr.drewN nq).heap.size := fun k h => by
          rcases h with h | h | h
          · exact Nat.lt_of_lt_of_le h G4.size
          · exact h ▸ B4.lt
          · exact (hob4 k h).1
        clear A3 HX8 B3 G3 hob hcell hsz q1 q2 HA
        generalize wr.drewN nq = w4 at *
        have hug := uses_get (k := key) hSp hLR hR1
        have hUl : U.length ≤ 5 := by rw [HU.out]; simp only [keysOf, List.length_map]; omega
        have HUG := Lib.hid hug
        clear hug
        go_wp2_with fail
        rcases HUG.out with ⟨s, c1, c2, c3, c4⟩ | ⟨c1, L', c5, c2, c3, c4⟩
        case' inl =>
          clear HUG
          refine (get_away A4 key 0).mono ?_
          rintro e w5 ⟨rfl, A5, F5⟩
          rw [c1] at A5 ⊢
          rw [show told (some s) = .tuple #[.agg #[.int .i64 s.k, .int .i64 s.date, .int .i64 s.reason, .int .i64 s.cause], .bool true] from rfl]
          simp only at A5
          have C1 := Lib.hid (And.intro c2 (And.intro c3 c4))
          clear c1 c2 c3 c4
          go_wp2_with fail
          have F6 : Fr (fun _ => False) w5 (w5.alloc (.cells #[.int .i64 s.k, .int .i64 s.date, .int .i64 s.reason, .int .i64 s.cause] 37)) := (Fr.refl w5).alloc _
          have A7 := A5.step (K' := (fun k => k < w.heap.size ∨ k = nb ∨ (Value.slice a8 U.length c8).ownBlock = some k)) F6 (fun _ _ h => h.elim) (fun _ h => .inl h)
          have X7 := (hX4.fr F5 (fun k hk h => h (.inr (.inr hk)))).fr F6 (fun _ _ h => h)
          have B7 := (B4.fr F5 (fun h => h (.inr (.inl rfl)))).fr F6 (fun h => h)
          have G7 := (G4.trans (F5.mono (fun _ _ h => fun hk => h (.inl hk)))).trans (F6.mono (fun _ _ h => h.elim))
          have S7 : w4.heap.size ≤ (w5.alloc (.cells #[.int .i64 s.k, .int .i64 s.date, .int .i64 s.reason, .int .i64 s.cause] 37)).heap.size := Nat.le_trans F5.size F6.size
          generalize (w5.alloc (.cells #[.int .i64 s.k, .int .i64 s.date, .int .i64 s.reason, .int .i64 s.cause] 37)) = w7 at *
          clear F5 F6 A5
          generalize del key L ++ [s] = L' at *
        case' inr =>
          clear HUG
          refine (get_away A4 key 0).mono ?_
          rintro e w5 ⟨rfl, A5, F5⟩
          rw [c1] at A5 ⊢
          rw [show told none = .tuple #[.agg #[.int .i64 0, .int .i64 0, .int .i64 0, .int .i64 0], .bool false] from rfl]
          simp only at A5
          have C1 := Lib.hid (And.intro c2 (And.intro c3 c4))
          have C5 := Lib.hid c5
          clear c1 c2 c3 c4 c5
          have hal := alloc_old
          have B5 := B4.fr F5 (fun h => h (.inr (.inl rfl)))
          have S5 := B5.cell
          have l5 := B5.lt
          have F6 : Fr (fun _ => False) w5 (w5.alloc (.cells #[.int .i64 0, .int .i64 0, .int .i64 0, .int .i64 0] 37)) := (Fr.refl w5).alloc _
          have A6 := A5.step (K' := (fun k => k < w.heap.size ∨ k = nb ∨ (Value.slice a8 U.length c8).ownBlock = some k)) F6 (fun _ _ h => h.elim) (fun _ h => .inl h)
          have hK6 : ∀ k, (k < w.heap.size ∨ k = nb ∨ (Value.slice a8 U.length c8).ownBlock = some k) → k < (w5.alloc (.cells #[.int .i64 0, .int .i64 0, .int .i64 0, .int .i64 0] 37)).heap.size := fun k h => Nat.lt_of_lt_of_le (hK4 k h) (Nat.le_trans F5.size F6.size)
          have X6 := (hX4.fr F5 (fun k hk h => h (.inr (.inr hk)))).fr F6 (fun _ _ h => h)
          have B6 := B5.fr F6 (fun h => h)
          have G6 := (G4.trans (F5.mono (fun _ _ h => fun hk => h (.inl hk)))).trans (F6.mono (fun _ _ h => h.elim))
          have S6 : w4.heap.size ≤ (w5.alloc (.cells #[.int .i64 0, .int .i64 0, .int .i64 0, .int .i64 0] 37)).heap.size := Nat.le_trans F5.size F6.size
          clear F5 F6
          go_wp2_with fail
          refine (put_away A6 hK6 (us key)).mono ?_
          rintro e w7 ⟨rfl, A7, F7⟩
          rw [C5.out] at A7 ⊢
          simp only at A7
          have X7 := X6.fr F7 (fun k hk h => h (.inr (.inr hk)))
          have B7 := B6.fr F7 (fun h => h (.inr (.inl rfl)))
          have G7 := G6.trans (F7.mono (fun _ _ h => fun hk => h (.inl hk)))
          have S7 := Nat.le_trans S6 F7.size
          clear A6 hK6 X6 B6 G6 S6 F7 hal B5 S5 l5 A5
          go_wp2_with fail
        all_goals
          have hob7 : ∀ k, (Value.slice a8 U.length c8).ownBlock = some k → k < w7.heap.size ∧ w.heap.size ≤ k := fun k hk => ⟨Nat.lt_of_lt_of_le (hob4 k hk).1 S7, (hob4 k hk).2⟩
          clear A4 hX4 B4 G4 hob4 hK4 hSp hLR S7
          obtain ⟨i0, hi, hz0, hz1, hz2⟩ := info_parts info9
          have HX7 := Lib.hid X7
          have HI := Lib.hid (And.intro hi (And.intro hz0 (And.intro hz1 hz2)))
          clear X7 hi hz0 hz1 hz2
          go_loopg [13, 14] U.length (fun g nx j wy => ∃ m : Nat, g = U.length - m ∧ m ≤ U.length ∧ j = .int .i64 m ∧ wy.ownsRow w7.heap.size 9 1 nx ((U.take m).filter fun x => decide (x ≠ key)).length (((U.take m).filter fun x => decide (x ≠ key)).map Value.string) ∧ Fr (fun _ => False) w7 wy)
          case atStart => exact ⟨0, rfl, Nat.zero_le _, rfl, ⟨by simp, .inl ⟨rfl, by simp⟩⟩, Fr.refl _⟩
          case round =>
            obtain ⟨m, hgm, hm, rfl, hown, hFy⟩ := hrel
            have HGM := Lib.hid hgm
            clear hgm
            by_cases hmU : m < U.length
            · obtain ⟨a', cap', he', _, hx⟩ := HX7.out
              simp only [Value.slice.injEq] at he'
              obtain ⟨rfl, _, rfl⟩ := he'
              obtain ⟨b', o', rfl, hx2⟩ := hx (by omega)
              have hcm := hFy.cell (hx2 m hmU) (fun h => h)
              obtain ⟨x, hx0⟩ : ∃ x, x = U.getD m ⟨#[]⟩ := ⟨_, rfl⟩
              have hts : U.take (m + 1) = U.take m ++ [x] := by
                rw [List.take_succ_eq_append_getElem hmU, hx0]; simp [List.getD, hmU]
              rw [← hx0] at hcm
              have HT := Lib.hid hts
              have HOWN := Lib.hid hown
              have HFY := Lib.hid hFy
              clear hx hx2 hx0 hts hown hFy
              by_cases hxk : x = key
              · have e1 := toList_same hxk
                have HXK := Lib.hid hxk
                clear hxk
                go_wp2_with fail
                go_roundg (U.length - (m + 1))
                case measure => rw [HGM.out]; omega
                case rel =>
                  have hfil : (U.take (m + 1)).filter (fun x => decide (x ≠ key)) = (U.take m).filter fun x => decide (x ≠ key) := by
                    rw [HT.out, List.filter_append]; simp [HXK.out]
                  exact ⟨m + 1, rfl, by omega, by go_num, by rw [hfil]; exact HOWN.out, HFY.out⟩
              · have e1 := toList_other hxk
                have HXK := Lib.hid hxk
                clear hxk
                have hfl : ((U.take m).filter fun x => decide (x ≠ key)).length ≤ 5 := Nat.le_trans (List.length_filter_le _ _) (by simp; omega)
                have hnews : ∀ j u, [Value.string x][j]? = some u → (wr.alloc (.cells #[.string x] 9)).cell? ((⟨wr.heap.size, 0, none⟩ : Addr).add j) = some u :=
                  World.news_of_block (cs := #[.string x]) (t := 9) (fr := (0, 0)) (Blk.new wr 9 #[.string x])
                have HNW := Lib.hid hnews
                have HFL := Lib.hid hfl
                clear hnews hfl
                go_wp2_with (at_builtin; refine wpList_append_own _ rfl (.tmp 83) (.tmp 88) 32 rfl w7.heap.size 9 i0 (.string ⟨#[]⟩) 1 16 Try.underlying32 HI.out.1 HI.out.2.1 HI.out.2.2.1 HI.out.2.2.2 rfl (by decide) u13 _ _ rfl (HOWN.out.alloc _) ⟨wr.heap.size, 0, none⟩ 1 1 [.string x] rfl rfl HNW.out (by simp [Value.oneCell']) (by unfold maxLen; have := HFL.out; omega) (by have := HFL.out; omega) (by have := HFY.out.size; simp; omega) ?_; intro v' w9 hown9 hg9 _)
                have hg9' : (wr.alloc (.cells #[.string x] 9)).grownBy w9 u13.ownBlock := hg9
                go_roundg (U.length - (m + 1))
                case measure => rw [HGM.out]; omega
                case rel =>
                  have hfil : (U.take (m + 1)).filter (fun x => decide (x ≠ key)) = ((U.take m).filter fun x => decide (x ≠ key)) ++ [x] := by
                    rw [HT.out, List.filter_append]; simp [HXK.out]
                  refine ⟨m + 1, rfl, by omega, by go_num, ?_, ?_⟩
                  · rw [hfil]; simpa using hown9
                  · have hb := (Strs.of_own HOWN.out).2
                    exact (HFY.out.alloc _).trans' (Fr.of_grown hg9') (fun i hi h => absurd (hb i h) (by omega))
            · obtain rfl : m = U.length := by omega
              have hfl : (U.filter fun x => decide (x ≠ key)).length ≤ 5 := Nat.le_trans (List.length_filter_le _ _) hUl
              rw [List.take_length] at hown
              obtain ⟨V0, hV0⟩ : ∃ V0, V0 = U.filter fun x => decide (x ≠ key) := ⟨_, rfl⟩
              rw [← hV0] at hown hfl
              have HV0 := Lib.hid hV0
              clear hV0
              have hnews : ∀ j u, [Value.string key][j]? = some u → (wr.alloc (.cells #[.string key] 9)).cell? ((⟨wr.heap.size, 0, none⟩ : Addr).add j) = some u :=
                World.news_of_block (cs := #[.string key]) (t := 9) (fr := (0, 0)) (Blk.new wr 9 #[.string key])
              have HNW := Lib.hid hnews
              have HFL := Lib.hid hfl
              have HOWN := Lib.hid hown
              have HFY := Lib.hid hFy
              clear hnews hfl hown hFy HGM
              go_wp2_with (at_builtin; refine wpList_append_own _ rfl (.tmp 90) (.tmp 92) 32 rfl w7.heap.size 9 i0 (.string ⟨#[]⟩) 1 16 Try.underlying32 HI.out.1 HI.out.2.1 HI.out.2.2.1 HI.out.2.2.2 rfl (by decide) u13 _ _ rfl (HOWN.out.alloc _) ⟨wr.heap.size, 0, none⟩ 1 1 [.string key] rfl rfl HNW.out (by simp [Value.oneCell']) (by unfold maxLen; have := HFL.out; omega) (by have := HFL.out; omega) (by have := HFY.out.size; simp; omega) ?_; intro v' w9 hown9 hg9 _; obtain ⟨g9, c9, rfl, hc9⟩ := own_form hown9; have HO9 := Lib.hid hown9; have HG9 := Lib.hid hg9; clear hown9 hg9)
              · have hRV : R < (V0.length : Int) + 1 := by assumption
                go_roundg (40 - (k + 1))
                case measure => rw [HGK.out]; omega
                case rel =>
                  obtain ⟨d1, d2, d3⟩ := C1.out
                  have hkeys : keysOf L' = (V0 ++ [key]).tail := by
                    rw [d1, ← HU.out]
                    unfold usesU
                    rw [← HV0.out, if_pos (by simp; omega)]
                  have hF9 : Fr (fun _ => False) w7 w9 := (HFY.out.alloc _).trans' (Fr.of_grown (row := u13.ownBlock) HG9.out) (fun i hi h => absurd ((Strs.of_own HOWN.out).2 i h) (by omega))
                  have hown9 : w9.ownsRow w7.heap.size 9 1 (.slice (some ⟨g9, 0, none⟩) (V0.length + 1) c9) (V0 ++ [key]).length ((V0 ++ [key]).map Value.string) := by simpa using HO9.out
                  obtain ⟨hS9, hb9⟩ := Strs.of_own hown9
                  obtain ⟨b9, o9, he9, _, _, hS10⟩ := hS9.tail (by simp; omega)
                  simp only [Option.some.injEq, Addr.mk.injEq] at he9
                  obtain ⟨rfl, rfl, _⟩ := he9
                  refine ⟨k + 1, L', rfl, by omega, by go_num, ?_, d2, d3, ?_, ?_, B7.fr hF9 (fun h => h), G7.trans (hF9.mono (fun _ _ h => h.elim))⟩
                  · rw [hkeys]; exact hS10
                  · exact A7.step hF9 (fun _ _ h => h.elim) (fun i h => by
                      rcases h with h | h | h
                      · exact .inl (.inl h)
                      · exact .inl (.inr (.inl h))
                      · exact .inr (hb9 i h))
                  · intro i h
                    have h9 : i = g9 := by simp only [Value.ownBlock, Option.some.injEq] at h; exact h.symm
                    have := hb9 g9 rfl
                    have hl9 : g9 < w9.heap.size := by
                      rcases hown9.2 with ⟨e, _⟩ | ⟨_, _, _, e, _, hh, _⟩
                      · cases e
                      · simp only [Value.slice.injEq, Option.some.injEq, Addr.mk.injEq] at e
                        rw [e.1.1]
                        exact (Array.getElem?_eq_some_iff.1 hh).1
                    have := G7.size
                    omega
              · have hRV : (V0.length : Int) + 1 ≤ R := by assumption
                go_roundg (40 - (k + 1))
                case measure => rw [HGK.out]; omega
                case rel =>
                  obtain ⟨d1, d2, d3⟩ := C1.out
                  have hkeys : keysOf L' = V0 ++ [key] := by
                    rw [d1, ← HU.out]
                    unfold usesU
                    rw [← HV0.out, if_neg (by simp; omega)]
                  have hF9 : Fr (fun _ => False) w7 w9 := (HFY.out.alloc _).trans' (Fr.of_grown (row := u13.ownBlock) HG9.out) (fun i hi h => absurd ((Strs.of_own HOWN.out).2 i h) (by omega))
                  have hown9 : w9.ownsRow w7.heap.size 9 1 (.slice (some ⟨g9, 0, none⟩) (V0.length + 1) c9) (V0 ++ [key]).length ((V0 ++ [key]).map Value.string) := by simpa using HO9.out
                  obtain ⟨hS9, hb9⟩ := Strs.of_own hown9
                  refine ⟨k + 1, L', rfl, by omega, by go_num, ?_, d2, d3, ?_, ?_, B7.fr hF9 (fun h => h), G7.trans (hF9.mono (fun _ _ h => h.elim))⟩
                  · rw [hkeys]; exact hS9
                  · exact A7.step hF9 (fun _ _ h => h.elim) (fun i h => by
                      rcases h with h | h | h
                      · exact .inl (.inl h)
                      · exact .inl (.inr (.inl h))
                      · exact .inr (hb9 i h))
                  · intro i h
                    have h9 : i = g9 := by simp only [Value.ownBlock, Option.some.injEq] at h; exact h.symm
                    have := hb9 g9 rfl
                    have hl9 : g9 < w9.heap.size := by
                      rcases hown9.2 with ⟨e, _⟩ | ⟨_, _, _, e, _, hh, _⟩
                      · cases e
                      · simp only [Value.slice.injEq, Option.some.injEq, Addr.mk.injEq] at e
                        rw [e.1.1]
                        exact (Array.getElem?_eq_some_iff.1 hh).1
                    have := G7.size
                    omega
    · have hno : k < len → ¬ (k : Int) < 40 := fun h => by omega
      have HSt : Strs wr (.slice a8 U.length c8) U := ⟨a8, c8, rfl, hc8, HX8.out⟩
      have HST := Lib.hid HSt
      clear HSt HX8
      have hUl : U.length ≤ 5 := by rw [HU.out]; simp only [keysOf, List.length_map]; omega
      have hfin := keys_any wr c _ R L A3 (by omega)
      have HFIN := Lib.hid hfin
      clear hfin
      rcases Nat.lt_or_ge k len with hkl | hkl
      case' inl => have h40 := hno hkl
      all_goals
        clear hno hlt
        go_wp2_with fail
        refine HFIN.out.mono ?_
        rintro e w5 ⟨sl, rfl, A5, F5, hown⟩
        have hk5 : keyVals L = U.map Value.string := by rw [HU.out]; simp [keyVals, keysOf]
        rw [hk5] at hown
        obtain ⟨hS5, _⟩ := Strs.of_own hown
        obtain ⟨a5, c5, rfl, hc5, hx5⟩ := hS5
        have hX5 : Strs w5 (.slice a5 U.length c5) U := ⟨a5, c5, rfl, hc5, hx5⟩
        have hX8 := HST.out.fr F5 (fun _ _ h => h)
        have G5 := G3.trans (F5.mono (fun _ _ h => h.elim))
        clear hx5 hown hk5 A5 F5 G3
        go_wp2_with fail
        refine (known_any w5).mono ?_
        rintro e w6 ⟨rfl, F6⟩
        have HX5 := Lib.hid (hX5.fr F6 (fun _ _ h => h))
        have HX8 := Lib.hid (hX8.fr F6 (fun _ _ h => h))
        have G6 := G5.trans (F6.mono (fun _ _ h => h.elim))
        clear hX5 hX8 G5 F6
        go_wp2_with fail
        go_loopg [16] U.length (fun g j wy => ∃ m : Nat, g = U.length - m ∧ m ≤ U.length ∧ j = .int .i64 m ∧ Fr (fun _ => False) w6 wy)
        case atStart => exact ⟨0, rfl, Nat.zero_le _, rfl, Fr.refl _⟩
        case round =>
          obtain ⟨m, hgm, hm, rfl, hFy⟩ := hrel
          have HGM := Lib.hid hgm
          clear hgm
          by_cases hmU : m < U.length
          · obtain ⟨a', cap', he', _, hx⟩ := HX5.out
            simp only [Value.slice.injEq] at he'
            obtain ⟨rfl, _, rfl⟩ := he'
            obtain ⟨b5, o5, rfl, hx5⟩ := hx (by omega)
            obtain ⟨a', cap', he', _, hy⟩ := HX8.out
            simp only [Value.slice.injEq] at he'
            obtain ⟨rfl, _, rfl⟩ := he'
            obtain ⟨b8, o8, rfl, hx8⟩ := hy (by omega)
            have hc1 := hFy.cell (hx5 m hmU) (fun h => h)
            have hc2 := hFy.cell (hx8 m hmU) (fun h => h)
            generalize U.getD m ⟨#[]⟩ = x at hc1 hc2
            have q1 : (0 : Int) ≤ (m : Int) := by omega
            have q2 : (m : Int) < (U.length : Int) := by omega
            have e1 := toList_same (rfl : x = x)
            clear hx hx5 hy hx8
            go_wp2_with fail
            go_quiet (fail)
            go_wp2_with fail
            go_roundg (U.length - (m + 1))
            case measure => rw [HGM.out]; omega
            case rel => exact ⟨m + 1, rfl, by omega, by go_num, hFy.drewN nq⟩
          · go_wp2_with fail
            go_ret
            exact ⟨rfl, (G6.trans (hFy.mono (fun _ _ h => h.elim))).mono (fun i hi h => h hi)⟩
end Go.Proofs.Ytjcjebmlibllbaa
