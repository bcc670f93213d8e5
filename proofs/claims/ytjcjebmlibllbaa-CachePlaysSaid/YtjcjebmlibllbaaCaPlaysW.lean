/-
  The walk of CachePlays.
-/
import Derived.Test.YtjcjebmlibllbaaRefDo
import Derived.Test.YtjcjebmlibllbaaCaKnown
namespace Go.Proofs.Ytjcjebmlibllbaa
open Go Go.RowKit Go.Q

theorem new_bad (room : Int) (w : World) (h : room < 0 ∨ 10000 < room) :
    Calls Try.prog 8 #[.int .i64 room] w fun e w' => e = .returned (.tuple #[.pointer none, .int .i64 1]) ∧ w = w' := by
  rcases Classical.em (room < 0) with h0 | h0
  · go_enter Try.func8, Try.ntmps8
    go_wp2_with fail
    exact bodyPost_ret (v := .tuple #[.pointer none, .int .i64 1]) (by simp [results, Try.results8, go_sem]) rfl ⟨rfl, rfl⟩
  · have h1 : 10000 < room := by omega
    go_enter Try.func8, Try.ntmps8
    go_wp2_with fail
    exact bodyPost_ret (v := .tuple #[.pointer none, .int .i64 1]) (by simp [results, Try.results8, go_sem]) rfl ⟨rfl, rfl⟩

/-- A new cache and a new one of the reference's. -/
theorem pair_new {w : World} {room : Int} {c : Nat} {K : Nat → Prop} (h1 : Away w c K room []) (hK : ∀ k, K k → k < w.heap.size) :
    Pair (w.alloc (.cells #[.int .i64 room, .slice none 0 0] 53)) c w.heap.size K room [] [] := by
  have F : Fr (fun _ => False) w (w.alloc (.cells #[.int .i64 room, .slice none 0 0] 53)) := (Fr.refl w).alloc _
  refine ⟨fun k hk => Nat.lt_of_lt_of_le (hK k hk) F.size, fun k => w.heap.size ≤ k, h1.step F (fun _ _ h => h.elim) (fun k h => h), .slice none 0 0, Blk.new w _ _, ⟨rfl, .inl ⟨rfl, rfl⟩⟩, fun h => ?_, by simp [Value.ownBlock]⟩
  rcases h with h | h
  · exact Nat.lt_irrefl _ (hK _ h)
  · exact h (Nat.le_refl _)

theorem Strs.old {w wr : World} {v : Value} {l : List ByteArray} (h : Strs w v l) (f : Fr (fun k => ¬ k < w.heap.size) w wr) : Strs wr v l := by
  obtain ⟨a, cap, rfl, hc, h⟩ := h
  refine ⟨a, cap, rfl, hc, fun hp => ?_⟩
  obtain ⟨b, o, rfl, hx⟩ := h hp
  exact ⟨b, o, rfl, fun i hi => f.cell (hx i hi) (fun hn => hn (World.block_lt_of_cell? w _ (hx i hi)))⟩
theorem Strs.low {w : World} {a : Option Addr} {n cap : Nat} {l : List ByteArray} (h : Strs w (.slice a n cap) l) : 0 < n → ∀ k, (Value.slice a n cap).ownBlock = some k → k < w.heap.size := fun hp k hk => by
  obtain ⟨ka, kc, he, hkc, hx⟩ := h
  simp only [Value.slice.injEq] at he
  obtain ⟨he1, he2, he3⟩ := he
  obtain ⟨b', o', rfl, hy⟩ := hx (by omega)
  rw [he1] at hk
  simp only [Value.ownBlock, Option.some.injEq] at hk
  exact hk ▸ World.block_lt_of_cell? w _ (hy 0 (by omega))

/-- What is known of a call's row. -/
def ActRow (w : World) (b o : Nat) (a : Act) : Prop := ActAt w b o a ∧ a.s.key.size ≤ maxLen ∧ ∃ ks, Strs w (.slice a.ka a.kl a.kc) ks

set_option maxRecDepth 100000 in
set_option maxHeartbeats 4000000 in
theorem plays_walk (room : Int) (sa : Option Addr) (b o len cap : Nat) (l : Nat → Act) (w : World) (ha : 0 < len → sa = some ⟨b, o, none⟩) (hl : ∀ i, i < len → ActRow w b (o + i * 10) (l i)) :
    Calls Try.prog 6 #[.int .i64 room, .slice sa len cap] w fun e w' => e = .returned (.bool true) ∧ Fr (fun _ => False) w w' := by
  have HL := Lib.hid hl
  have HA := Lib.hid ha
  clear hl ha
  rcases Classical.em (room < 0 ∨ 10000 < room) with hbad | hgood
  · rcases Classical.em (room < 0) with h0 | h0
    case' inr => have h1 : 10000 < room := by omega
    all_goals
      go_enter Try.func6, Try.ntmps6
      go_wp2_with fail
      refine (new_bad room w hbad).mono ?_
      rintro e w1 ⟨rfl, rfl⟩
      go_wp2_with fail
      refine (known_any w).mono ?_
      rintro e w2 ⟨rfl, F2⟩
      go_wp2_with fail
      go_ret
      exact ⟨rfl, F2⟩
  · have hr0 : 0 ≤ room := by omega
    have hr1 : room ≤ 10000 := by omega
    clear hgood
    go_enter Try.func6, Try.ntmps6
    go_wp2_with fail
    refine (new_away room w hr0 hr1).mono ?_
    rintro e w1 ⟨rfl, A1, F1, z1⟩
    generalize w.heap.size + 2 = c at *
    have Z1 := Lib.hid z1
    clear z1
    go_wp2_with fail
    have P2 := pair_new A1 (fun k hk => Nat.lt_of_lt_of_le hk F1.size)
    have F2 : Fr (fun _ => False) w1 (w1.alloc (.cells #[.int .i64 room, .slice none 0 0] 53)) := (Fr.refl w1).alloc _
    have G2 : Fr (fun k => ¬ k < w.heap.size) w (w1.alloc (.cells #[.int .i64 room, .slice none 0 0] 53)) := (F1.trans F2).mono (fun _ _ h => h.elim)
    clear F1 F2 A1 Z1
    generalize (w1.alloc (.cells #[.int .i64 room, .slice none 0 0] 53)) = w2 at *
    generalize w1.heap.size = q at *
    go_loopg [8] 100 (fun g i wr => ∃ (k : Nat) (L : List Slot), g = 100 - k ∧ k ≤ len ∧ i = .int .i64 k ∧ Pair wr c q (fun k => k < w.heap.size) room L L ∧ (L.length : Int) ≤ room ∧ Fr (fun k => ¬ k < w.heap.size) w wr)
    case atStart => exact ⟨0, [], rfl, Nat.zero_le _, rfl, P2, by simpa using hr0, G2⟩
    case round =>
      obtain ⟨k, L, hg, hk, rfl, P3, hLR, G3⟩ := hrel
      have HG := Lib.hid hg
      clear hg
      by_cases hlt : k < len ∧ k < 100
      · obtain ⟨hk1, hk2⟩ := hlt
        obtain rfl := HA.out (by omega)
        obtain ⟨hat, hsz, ks, hks⟩ := HL.out k hk1
        generalize l k = a at *
        have hkb := Strs.low hks
        have hat3 := hat.fr G3 (fun h => fun hn => hn h)
        have q1 : (0 : Int) ≤ (k : Int) := by omega
        have q2 : (k : Int) < (len : Int) := by omega
        have hbl : b < w.heap.size := World.block_lt_of_cell? w _ hat.1
        clear hat
        go_upto_region 10 with fail
        replace P3 := P3.same (Fr.refl wr).drew
        have hat4 : ActAt wr.drew b (o + k * 10) a := hat3
        replace G3 := G3.drew
        obtain ⟨h0, h1, h2, h3, h4, h5, h6, h7, h8, h9⟩ := hat4
        go_region_with (first
          | (go_at_call 17; refine (do_any a ks P3 hLR hr0 hr1 (Strs.old hks G3) hkb hsz).mono ?_; rintro e w' ⟨rfl, ⟨L4, P4, hL4⟩, F⟩; have G4 := G3.trans F; obtain ⟨sl, BQ, hown, -, -⟩ := P4.ref; obtain ⟨a7, c7, rfl, -, -, -⟩ := own_form7 hown; have e1 := BQ.cell 1; simp only [List.getElem?_toArray, List.getElem?_cons_succ, List.getElem?_cons_zero] at e1)
          | (go_at_call 13; refine (len_any P4.away).mono ?_; rintro e w' ⟨rfl, rfl⟩)
          | (go_at_call 18; refine (room_any P4.away).mono ?_; rintro e w' ⟨rfl, rfl⟩))
        all_goals
          have hl4 : L4.length ≤ 10000 := by omega
          have HX := Lib.hid hown
          have HP4 := Lib.hid P4
          have HF1 := Lib.hid (keys_any w' c _ room L4 P4.away hl4)
          obtain ⟨U, hU⟩ : ∃ U, U = keysOf L4 := ⟨_, rfl⟩
          have hUl : U.length = L4.length := by rw [hU]; simp [keysOf]
          have hk5 : keyVals L4 = U.map Value.string := by rw [hU]; simp [keyVals, keysOf]
          have HK5 := Lib.hid hk5
          have HU := Lib.hid hU
          clear hown P4 hU hk5 hat3 h0 h1 h2 h3 h4 h5 h6 h7 h8 h9 P3 G3 hLR hks hkb hsz P2 G2 HA HL F BQ
          go_wp2_with fail
          refine HF1.out.mono ?_
          rintro e w5 ⟨sl5, rfl, A5, F5, hown⟩
          rw [HK5.out] at hown
          obtain ⟨hS5, _⟩ := Strs.of_own hown
          obtain ⟨a5, c5, rfl, hc5, hx5⟩ := hS5
          have hX5 : Strs w5 (.slice a5 U.length c5) U := ⟨a5, c5, rfl, hc5, hx5⟩
          have HX5 := Lib.hid hX5
          have P5 := HP4.out.same F5
          have e5 := F5.cell e1 (fun h => h)
          have G5 := G4.trans (F5.mono (fun _ _ h => h.elim))
          have hXr := ownsRow_fr HX.out F5 (fun _ _ h => h)
          have HXR := Lib.hid hXr
          have HP5 := Lib.hid P5
          clear hx5 hown A5 F5 G4 hX5 HX HP4 HF1 e1 hXr P5
          have hne : ((U.length : Int) == (L4.length : Int)) = true := by rw [hUl]; simp
          go_wp2_with fail
          go_loopg [10] U.length (fun g j wy => ∃ m : Nat, g = U.length - m ∧ m ≤ U.length ∧ j = .int .i64 m ∧ Fr (fun _ => False) w5 wy)
          case atStart => exact ⟨0, rfl, Nat.zero_le _, rfl, Fr.refl _⟩
          case round =>
            obtain ⟨m, hgm, hm, rfl, hFy⟩ := hrel
            have HGM := Lib.hid hgm
            clear hgm
            by_cases hmU : m < U.length
            · obtain ⟨a', cap', he', _, hx⟩ := HX5.out
              simp only [Value.slice.injEq] at he'
              obtain ⟨rfl, _, rfl⟩ := he'
              obtain ⟨b5, o5, rfl, hx5⟩ := hx (by omega)
              obtain ⟨g, cap', he', _, _, hy⟩ := own_cells HXR.out (by omega)
              simp only [Value.slice.injEq] at he'
              obtain ⟨rfl, _, rfl⟩ := he'
              obtain ⟨s, hs⟩ : ∃ s, L4[m]? = some s := ⟨_, List.getElem?_eq_getElem (by omega)⟩
              have hc2 := hFy.cell (hy (m * 7 + 0) (.string s.key) (by rw [rows_get (by decide) hs]; rfl)) (fun h => h)
              simp only [Nat.add_zero] at hc2
              have hc1 := hFy.cell (hx5 m hmU) (fun h => h)
              rw [show U.getD m ⟨#[]⟩ = s.key from by rw [HU.out]; simp [keysOf, List.getD, hs]] at hc1
              have hc3 := hFy.cell e5 (fun h => h)
              have q1 : (0 : Int) ≤ (m : Int) := by omega
              have q2 : (m : Int) < (U.length : Int) := by omega
              have q3 : (m : Int) < (L4.length : Int) := by omega
              have e1 := toList_same (rfl : s.key = s.key)
              clear hx hx5 hy hs
              go_wp2_with fail
              go_quiet (fail)
              go_wp2_with fail
              go_roundg (U.length - (m + 1))
              case measure => rw [HGM.out]; omega
              case rel => exact ⟨m + 1, rfl, by omega, by go_num, hFy.drewN nq⟩
            · have P6 := HP5.out.same hFy
              have G6 := G5.trans (hFy.mono (fun _ _ h => h.elim))
              have HP6 := Lib.hid P6
              have HN := Lib.hid (next_away P6.away)
              have HN2 := Lib.hid (fun (v : World) (h : RefAt v q (fun k => k < w.heap.size) room L4) => rnext_any h hl4)
              generalize nextS L4 = nx at HN HN2
              obtain ⟨nx1, nx2⟩ := nx
              clear P6 HP5 G5 e5 HXR HX5 HU HK5 hFy
              go_wp2_with fail
              refine HN.out.mono ?_
              rintro e w7 ⟨rfl, A7, F7⟩
              have P7 := HP6.out.same F7
              have G7 := G6.trans (F7.mono (fun _ _ h => h.elim))
              have HN3 := Lib.hid (HN2.out w7 P7.ref)
              clear HN HN2 HP6 G6 A7 F7
              go_wp2_with fail
              refine HN3.out.mono ?_
              rintro e w8 ⟨rfl, rfl⟩
              go_wp2_with fail
              go_roundg (100 - (k + 1))
              case measure => rw [HG.out]; omega
              case rel => exact ⟨k + 1, L4, rfl, by omega, by go_num, P7, hL4, G7⟩
      · have hno : k < len → ¬ (k : Int) < 100 := fun h => by omega
        rcases Nat.lt_or_ge k len with hkl | hkl
        case' inl => have h100 := hno hkl
        all_goals
          clear hno hlt
          go_wp2_with fail
          refine (known_any wr).mono ?_
          rintro e w7 ⟨rfl, F7⟩
          go_wp2_with fail
          go_ret
          exact ⟨rfl, (G3.trans (F7.mono (fun _ _ h => h.elim))).mono (fun i hi h => h hi)⟩
end Go.Proofs.Ytjcjebmlibllbaa
