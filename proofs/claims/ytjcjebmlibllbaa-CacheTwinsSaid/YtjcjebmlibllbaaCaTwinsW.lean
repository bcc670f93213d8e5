/-
  The walk of CacheTwins.
-/
import Derived.Test.YtjcjebmlibllbaaCaTwo
import Derived.Test.YtjcjebmlibllbaaCaAct
import Derived.Test.YtjcjebmlibllbaaCaUsesW
import Derived.Test.YtjcjebmlibllbaaCaRoomW
namespace Go.Q
open Go
def NoKey (k : ByteArray) (L : List Slot) : Prop := ∀ s ∈ L, s.key ≠ k
theorem noKey_del {k k' : ByteArray} {L : List Slot} (h : NoKey k L) : NoKey k (del k' L) := fun s hs => h s (List.mem_filter.1 hs).1
theorem noKey_add {k : ByteArray} {L : List Slot} {s : Slot} (h : NoKey k L) (hs : s.key ≠ k) : NoKey k (L ++ [s]) := fun x hx => by
  rcases List.mem_append.1 hx with h1 | h1
  · exact h x h1
  · simp at h1; subst h1; exact hs
theorem noKey_tail {k : ByteArray} {L : List Slot} (h : NoKey k L) : NoKey k L.tail := fun x hx => h x (List.mem_of_mem_tail hx)
theorem put_len (room : Int) (L : List Slot) (s : Slot) (hr : 0 ≤ room) (hL : (L.length : Int) ≤ room) : ((putS room L s).2.length : Int) ≤ room := by
  rcases put_get room L s hr hL with h | h
  · exact h.2.2.2.2
  · exact h.2.2.2
theorem noKey_put {k : ByteArray} {room : Int} {L : List Slot} {s : Slot} (h : NoKey k L) (hs : s.key ≠ k) : NoKey k (putS room L s).2 := by
  unfold putS
  split
  · exact noKey_del h
  split
  · exact noKey_del h
  split
  · exact noKey_add (noKey_tail (noKey_del h)) hs
  · exact noKey_add (noKey_del h) hs
theorem noKey_get {k k' : ByteArray} {L : List Slot} {now : Int} (h : NoKey k L) : NoKey k (getS L k' now).2 := by
  unfold getS
  split
  · exact h
  · rename_i s hl
    split
    · exact noKey_add (noKey_del h) (h s (List.mem_of_find?_eq_some hl))
    · exact noKey_del h
theorem get_noKey {k : ByteArray} {L : List Slot} {now : Int} (h : NoKey k L) : getS L k now = (none, L) := by
  have := lookS_none (k := k) (L := L) h
  simp [getS, this]
theorem drop_noKey {k : ByteArray} {L : List Slot} (h : NoKey k L) : dropS L [k] = (0, L) := by
  have := lookS_none (k := k) (L := L) h
  simp [dropS, this]
theorem get_len {k : ByteArray} {L : List Slot} {now : Int} : (getS L k now).2.length ≤ L.length := by
  unfold getS
  split
  · exact Nat.le_refl _
  · rename_i s hl
    have hmem := List.mem_of_find?_eq_some hl
    have hkey : s.key = k := by have := List.find?_some hl; simpa using this
    have hlen : (del k L).length < L.length := by
      unfold del
      refine Nat.lt_of_le_of_ne (List.length_filter_le _ _) (fun e => ?_)
      have := List.length_filter_eq_length_iff.1 e s hmem
      simp [hkey] at this
    split
    · simp only [List.length_append, List.length_cons, List.length_nil]; omega
    · exact Nat.le_of_lt hlen
end Go.Q
namespace Go.Proofs.Ytjcjebmlibllbaa
open Go Go.RowKit Go.Q

theorem told_form (o : Option Slot) : ∃ (x y z u : Int) (t : Bool), told o = .tuple #[.agg #[.int .i64 x, .int .i64 y, .int .i64 z, .int .i64 u], .bool t] := by
  cases o with
  | none => exact ⟨_, _, _, _, _, rfl⟩
  | some s => exact ⟨_, _, _, _, _, rfl⟩

set_option maxRecDepth 100000 in
set_option maxHeartbeats 4000000 in
theorem twins_walk (room : Int) (sa : Option Addr) (b o len cap : Nat) (l : Nat → Act) (other : ByteArray) (w : World) (ha : 0 < len → sa = some ⟨b, o, none⟩) (hl : ∀ i, i < len → ActAt w b (o + i * 10) (l i)) :
    Calls Try.prog 5 #[.int .i64 room, .slice sa len cap, .string other] w fun e w' => e = .returned (.bool true) ∧ Fr (fun _ => False) w w' := by
  have hR := rem6 room
  have HL := Lib.hid hl
  have HA := Lib.hid ha
  clear hl ha
  go_enter Try.func5, Try.ntmps5
  go_wp2_with fail
  generalize wrap64 ((IntKind.u64.wrap room).tmod 6) = R at *
  refine (new_away R w hR.1 (by omega)).mono ?_
  rintro e w1 ⟨rfl, A1, F1, z1⟩
  generalize w.heap.size + 2 = c at *
  have Z1 := Lib.hid z1
  clear z1
  go_wp2_with fail
  refine (new_away R w1 hR.1 (by omega)).mono ?_
  rintro e w2 ⟨rfl, A2, F2, z2⟩
  generalize w1.heap.size + 2 = d at *
  have T2 : Two w2 c d (fun k => k < w.heap.size) R [] [] := two_new A1 (fun k hk => Nat.lt_of_lt_of_le hk F1.size) F2 A2
  have G2 : Fr (fun k => ¬ k < w.heap.size) w w2 := (F1.trans F2).mono (fun _ _ h => h.elim)
  clear z2 Z1 A1 A2 F1 F2
  go_wp2_with fail
  go_loopg [11] 100 (fun g i wr => ∃ (k : Nat) (L : List Slot), g = 100 - k ∧ k ≤ len ∧ i = .int .i64 k ∧ Two wr c d (fun k => k < w.heap.size) R L L ∧ NoKey other L ∧ (L.length : Int) ≤ R ∧ Fr (fun k => ¬ k < w.heap.size) w wr)
  case atStart => exact ⟨0, [], rfl, Nat.zero_le _, rfl, T2, by intro x hx; simp at hx, by simpa using hR.1, G2⟩
  case round =>
    obtain ⟨k, L, hg, hk, rfl, T3, hNo, hLR, G3⟩ := hrel
    have HG := Lib.hid hg
    clear hg
    by_cases hlt : k < len ∧ k < 100
    · obtain ⟨hk1, hk2⟩ := hlt
      obtain rfl := HA.out (by omega)
      obtain ⟨h0, h1, h2, h3, h4, h5, h6, h7, h8, h9⟩ := (HL.out k hk1).fr G3 (fun h => fun hn => hn h)
      generalize l k = a at *
      go_upto_region 10 with fail
      obtain ⟨n, hn⟩ : ∃ n, n = wr.heap.size := ⟨_, rfl⟩
      have B := Blk.new wr 34 (#[.int .i64 a.kind, .string a.s.key, .int .i64 a.s.k, .int .i64 a.s.date, .int .i64 a.s.reason, .int .i64 a.s.cause, .int .i64 a.s.fr, .int .i64 a.s.to, .int .i64 a.now, .slice a.ka a.kl a.kc] : Array Value)
      have F4 : Fr (fun _ => False) wr (wr.alloc (.cells (#[.int .i64 a.kind, .string a.s.key, .int .i64 a.s.k, .int .i64 a.s.date, .int .i64 a.s.reason, .int .i64 a.s.cause, .int .i64 a.s.fr, .int .i64 a.s.to, .int .i64 a.now, .slice a.ka a.kl a.kc] : Array Value) 34)) := (Fr.refl wr).alloc _
      have G := G3.trans (F4.mono (fun _ _ h => h.elim))
      have T := T3.step (K' := fun k => k < w.heap.size ∨ k = n) F4 (fun _ _ h => h.elim) (fun k h => by omega) (fun k h => by
        have := G3.size
        simp only [World.size_alloc]
        omega)
      rw [← hn] at B ⊢
      clear h0 h1 h2 h3 h4 h5 h6 h7 h8 h9 F4 hn T3 G3
      generalize (wr.alloc (.cells (#[.int .i64 a.kind, .string a.s.key, .int .i64 a.s.k, .int .i64 a.s.date, .int .i64 a.s.reason, .int .i64 a.s.cause, .int .i64 a.s.fr, .int .i64 a.s.to, .int .i64 a.now, .slice a.ka a.kl a.kc] : Array Value) 34)) = w3 at *
      have hKn : ∀ k, k < w.heap.size → (k < w.heap.size ∨ k = n) := fun k h => .inl h
      have HPL := Lib.hid (put_len R L a.s hR.1 hLR)
      have HLR := Lib.hid hLR
      clear hLR
      have S := B.cell
      by_cases hoth : a.s.key = other
      · have e1 := toList_same hoth
        go_wp2_with fail
        go_roundg (100 - (k + 1))
        case measure => rw [HG.out]; omega
        case rel => exact ⟨k + 1, L, rfl, by omega, by go_num, T.step (Fr.refl w3) (fun _ _ h => h) (fun k h => .inl (.inl h)) (fun k h => Nat.lt_of_lt_of_le h G.size), hNo, HLR.out, G⟩
      · have e1 := toList_other hoth
        go_upto_region 11 with fail
        rcases Classical.em ((IntKind.u64.wrap a.kind).tmod 2 = 0) with hpar | hpar
        case' inl =>
          go_upto_region 12 with fail
          replace T := T.same (Fr.refl w3).drew
          replace B := B.drew
          replace G := G.drew
          go_region_held3 (fun w' => ∀ i, w'.cell? ⟨n, i, none⟩ = (#[.int .i64 a.kind, .string a.s.key, .int .i64 a.s.k, .int .i64 a.s.date, .int .i64 a.s.reason, .int .i64 a.s.cause, .int .i64 a.s.fr, .int .i64 a.s.to, .int .i64 a.now, .slice a.ka a.kl a.kc] : Array Value)[i]?) (exact B.cell) (first
            | (go_at_call 10; refine (status_fr _ _ _ _ _).mono ?_; rintro e w' ⟨rfl, F⟩; replace B := B.fr F (fun h => h); replace G := G.trans (F.mono (fun _ _ h => h.elim)); replace T := T.same F; have S := B.cell; clear F)
            | (go_at_call_of 9 (pt c); refine (T.op (op_put _ T.1 c R L a.s)).mono ?_; rintro e w' ⟨rfl, T', F⟩; replace B := B.fr F (fun h => h (.inr rfl)); replace G := G.trans (F.mono (fun _ _ h => fun hk => h (.inl hk))); replace T := T'; have S := B.cell; clear F T')
            | (go_at_call_of 9 (pt d); refine (T.op2 (op_put _ T.1 d R L a.s)).mono ?_; rintro e w' ⟨rfl, T', F⟩; replace B := B.fr F (fun h => h (.inr rfl)); replace G := G.trans (F.mono (fun _ _ h => fun hk => h (.inl hk))); replace T := T'; have S := B.cell; clear F T'))
          have HL7 := HPL
          have HN7 := Lib.hid (noKey_put (room := R) (s := a.s) hNo hoth)
          clear HPL S
          generalize (putS R L a.s).2 = L7 at *
          have T7 := T
          clear T
          have hal := alloc_old
          go_wp2_with fail
          generalize w' = w7 at *
        case' inr =>
          obtain ⟨x1, x2, x3, x4, t, htold⟩ := told_form (getS L a.s.key a.now).1
          have HGL := Lib.hid (get_len (k := a.s.key) (L := L) (now := a.now))
          have HNG := Lib.hid (noKey_get (k' := a.s.key) (now := a.now) hNo)
          have HGT := Lib.hid htold
          clear htold
          go_wp2_with fail
          refine (T.op (op_get _ T.1 c R L a.s.key a.now)).mono ?_
          rintro e w4 ⟨rfl, T4, F4⟩
          rw [HGT.out]
          have hal := alloc_old
          replace B := B.fr F4 (fun h => h (.inr rfl))
          replace G := G.trans (F4.mono (fun _ _ h => fun hk => h (.inl hk)))
          replace S := B.cell
          have lb := B.lt
          clear F4 T
          go_wp2_with fail
          obtain ⟨n4, hn4⟩ : ∃ n4, n4 = w4.heap.size := ⟨_, rfl⟩
          have B4 := Blk.new w4 37 #[.int .i64 x1, .int .i64 x2, .int .i64 x3, .int .i64 x4]
          have F5 : Fr (fun _ => False) w4 (w4.alloc (.cells #[.int .i64 x1, .int .i64 x2, .int .i64 x3, .int .i64 x4] 37)) := (Fr.refl w4).alloc _
          replace B := B.fr F5 (fun h => h)
          replace G := G.trans (F5.mono (fun _ _ h => h.elim))
          have T5 := T4.step (K' := fun k => k < w.heap.size ∨ k = n ∨ k = n4) F5 (fun _ _ h => h.elim) (fun k h => by omega) (fun k h => by
            have := G.size
            have := B.lt
            rcases h with h | h | h
            · omega
            · omega
            · simp only [World.size_alloc]; omega)
          replace S := B.cell
          rw [← hn4] at B4 ⊢
          clear F5 T4 hn4 lb
          generalize (w4.alloc (.cells #[.int .i64 x1, .int .i64 x2, .int .i64 x3, .int .i64 x4] 37)) = w5 at *
          refine (T5.op2 (op_get _ T5.1 d R L a.s.key a.now)).mono ?_
          rintro e w6 ⟨rfl, T6, F6⟩
          rw [HGT.out]
          replace B := B.fr F6 (fun h => h (.inr (.inl rfl)))
          replace B4 := B4.fr F6 (fun h => h (.inr (.inr rfl)))
          replace G := G.trans (F6.mono (fun _ _ h => fun hk => h (.inl hk)))
          replace S := B.cell
          have S4 := B4.cell
          have lb := B.lt
          have lb4 := B4.lt
          clear F6 T5 HGT
          go_wp2_with fail
          have F7 : Fr (fun _ => False) w6 (w6.alloc (.cells #[.int .i64 x1, .int .i64 x2, .int .i64 x3, .int .i64 x4] 37)) := (Fr.refl w6).alloc _
          replace B := B.fr F7 (fun h => h)
          replace G := G.trans (F7.mono (fun _ _ h => h.elim))
          have T7 := T6.step (K' := fun k => k < w.heap.size ∨ k = n) F7 (fun _ _ h => h.elim) (fun k h => .inl (h.imp id .inl)) (fun k h => by
            have := G.size
            have := B.lt
            omega)
          have hl7 : ((getS L a.s.key a.now).2.length : Int) ≤ R := by have h1 := HGL.out; have h2 := HLR.out; omega
          have HL7 := Lib.hid hl7
          clear hl7
          have HN7 := HNG
          clear F7 T6 B4 S S4 lb lb4 HPL HNG HGL
          generalize (getS L a.s.key a.now).2 = L7 at *
          generalize (w6.alloc (.cells #[.int .i64 x1, .int .i64 x2, .int .i64 x3, .int .i64 x4] 37)) = w7 at *
        all_goals
          refine (T7.op2 (op_get _ T7.1 d R L7 other a.now)).mono ?_
          rintro e w8 ⟨rfl, T8, F8⟩
          rw [get_noKey HN7.out] at T8 ⊢
          rw [show told none = .tuple #[.agg #[.int .i64 0, .int .i64 0, .int .i64 0, .int .i64 0], .bool false] from rfl]
          simp only at T8
          replace B := B.fr F8 (fun h => h (.inr rfl))
          replace G := G.trans (F8.mono (fun _ _ h => fun hk => h (.inl hk)))
          have S := B.cell
          have lb := B.lt
          clear F8 T7
          go_wp2_with fail
          have F9 : Fr (fun _ => False) w8 ((w8.alloc (.cells #[.int .i64 0, .int .i64 0, .int .i64 0, .int .i64 0] 37)).alloc (.cells #[.string other] 9)) := ((Fr.refl w8).alloc _).alloc _
          have B9 := Blk.new (w8.alloc (.cells #[.int .i64 0, .int .i64 0, .int .i64 0, .int .i64 0] 37)) 9 #[.string other]
          have X9 : Strs ((w8.alloc (.cells #[.int .i64 0, .int .i64 0, .int .i64 0, .int .i64 0] 37)).alloc (.cells #[.string other] 9)) (.slice (some ⟨w8.heap.size + 1, 0, none⟩) 1 1) [other] := by
            refine ⟨_, 1, rfl, by simp, fun _ => ⟨_, _, rfl, fun i hi => ?_⟩⟩
            obtain rfl : i = 0 := by simpa using hi
            simp
          replace G := G.trans (F9.mono (fun _ _ h => h.elim))
          have T9 := T8.step (K' := fun k => k < w.heap.size ∨ k = w8.heap.size + 1) F9 (fun _ _ h => h.elim) (fun k h => by omega) (fun k h => by
            rcases h with h | h
            · exact Nat.lt_of_lt_of_le h G.size
            · rw [h, World.size_alloc, World.size_alloc]; exact Nat.lt_succ_self _)
          clear F9 T8 B S lb B9
          generalize ((w8.alloc (.cells #[.int .i64 0, .int .i64 0, .int .i64 0, .int .i64 0] 37)).alloc (.cells #[.string other] 9)) = w9 at *
          refine (T9.op2 (op_drop w9 T9.1 d R L7 X9 (by simp) (fun k hk => by simp [Value.ownBlock] at hk; exact .inr hk.symm))).mono ?_
          rintro e w10 ⟨rfl, T10, F10⟩
          rw [drop_noKey HN7.out] at T10 ⊢
          simp only at T10
          replace G := G.trans (F10.mono (fun _ _ h => fun hk => h (.inl hk)))
          clear F10 X9 T9
          go_wp2_with fail
          go_roundg (100 - (k + 1))
          case measure => rw [HG.out]; omega
          case rel => exact ⟨k + 1, L7, rfl, by omega, by go_num, T10.step (Fr.refl w10) (fun _ _ h => h) (fun k h => .inl (.inl h)) (fun k h => Nat.lt_of_lt_of_le h G.size), HN7.out, HL7.out, G⟩
    · have hno : k < len → ¬ (k : Int) < 100 := fun h => by omega
      have hL5 : L.length ≤ 10000 := by omega
      obtain ⟨_, P, A1, A2⟩ := T3
      have HF1 := Lib.hid (keys_any wr c _ R L A1 hL5)
      have HA2 := Lib.hid A2
      have HL5 := Lib.hid hL5
      obtain ⟨U, hU⟩ : ∃ U, U = keysOf L := ⟨_, rfl⟩
      have hk5 : keyVals L = U.map Value.string := by rw [hU]; simp [keyVals, keysOf]
      have hUl : U.length ≤ 10000 := by rw [hU]; simpa [keysOf] using hL5
      have HK5 := Lib.hid hk5
      clear A1 A2 hL5 hk5 hU
      rcases Nat.lt_or_ge k len with hkl | hkl
      case' inl => have h100 := hno hkl
      all_goals
        clear hno hlt
        go_wp2_with fail
        refine HF1.out.mono ?_
        rintro e w5 ⟨sl5, rfl, A5, F5, hown⟩
        rw [HK5.out] at hown
        obtain ⟨hS5, _⟩ := Strs.of_own hown
        obtain ⟨a5, c5, rfl, hc5, hx5⟩ := hS5
        have hX5 : Strs w5 (.slice a5 U.length c5) U := ⟨a5, c5, rfl, hc5, hx5⟩
        have HX5 := Lib.hid hX5
        have G5 := G3.trans (F5.mono (fun _ _ h => h.elim))
        have HF2 := Lib.hid (keys_any w5 d _ R L (HA2.out.step (K' := fun _ => False) F5 (fun _ _ h => h.elim) (fun _ h => h.elim)) HL5.out)
        clear hx5 hown A5 F5 G3 hX5
        go_wp2_with fail
        refine HF2.out.mono ?_
        rintro e w6 ⟨sl6, rfl, A6, F6, hown⟩
        rw [HK5.out] at hown
        obtain ⟨hS6, _⟩ := Strs.of_own hown
        obtain ⟨a6, c6, rfl, hc6, hx6⟩ := hS6
        have hX6 : Strs w6 (.slice a6 U.length c6) U := ⟨a6, c6, rfl, hc6, hx6⟩
        have HX6 := Lib.hid hX6
        have HY5 := Lib.hid (HX5.out.fr F6 (fun _ _ h => h))
        have G6 := G5.trans (F6.mono (fun _ _ h => h.elim))
        clear hx6 hown A6 F6 G5 hX6 HX5
        go_wp2_with fail
        refine (known_any w6).mono ?_
        rintro e w7 ⟨rfl, F7⟩
        have HX5 := Lib.hid (HY5.out.fr F7 (fun _ _ h => h))
        have HX8 := Lib.hid (HX6.out.fr F7 (fun _ _ h => h))
        have G7 := G6.trans (F7.mono (fun _ _ h => h.elim))
        clear HY5 HX6 G6 F7
        go_wp2_with fail
        go_loopg [21] U.length (fun g j wy => ∃ m : Nat, g = U.length - m ∧ m ≤ U.length ∧ j = .int .i64 m ∧ Fr (fun _ => False) w7 wy)
        case atStart => exact ⟨0, rfl, Nat.zero_le _, rfl, Fr.refl _⟩
        case round =>
          obtain ⟨m, hgm, hm, rfl, hFy⟩ := hrel
          have HGM := Lib.hid hgm
          clear hgm
          by_cases hmU : m < U.length
          · obtain ⟨a', cap', he', _, hx⟩ := HX5.out
            simp only [Value.slice.injEq] at he'
            obtain ⟨rfl, _, rfl⟩ := he'
            obtain ⟨b5, o5, rfl, hx5⟩ := hx (by omega)
            obtain ⟨a', cap', he', _, hy⟩ := HX8.out
            simp only [Value.slice.injEq] at he'
            obtain ⟨rfl, _, rfl⟩ := he'
            obtain ⟨b8, o8, rfl, hx8⟩ := hy (by omega)
            have hc1 := hFy.cell (hx5 m hmU) (fun h => h)
            have hc2 := hFy.cell (hx8 m hmU) (fun h => h)
            generalize U.getD m ⟨#[]⟩ = x at hc1 hc2
            have q1 : (0 : Int) ≤ (m : Int) := by omega
            have q2 : (m : Int) < (U.length : Int) := by omega
            have e1 := toList_same (rfl : x = x)
            clear hx hx5 hy hx8
            go_wp2_with fail
            go_quiet (fail)
            go_wp2_with fail
            go_roundg (U.length - (m + 1))
            case measure => rw [HGM.out]; omega
            case rel => exact ⟨m + 1, rfl, by omega, by go_num, hFy.drewN nq⟩
          · go_wp2_with fail
            go_ret
            exact ⟨rfl, (G7.trans (hFy.mono (fun _ _ h => h.elim))).mono (fun i hi h => h hi)⟩
end Go.Proofs.Ytjcjebmlibllbaa
