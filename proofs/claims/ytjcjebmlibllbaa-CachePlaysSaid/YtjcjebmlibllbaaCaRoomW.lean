/-
  The walk of CacheRoom.
-/
import Derived.Test.YtjcjebmlibllbaaCaKnown
import Derived.Test.YtjcjebmlibllbaaCaAct
namespace Go.Proofs.Ytjcjebmlibllbaa
open Go Go.RowKit Go.Q

set_option maxHeartbeats 400000 in
theorem empty11_any (f t : Int) (w : World) :
    Calls Try.prog 12 #[.agg #[.int .i64 f, .int .i64 t]] w fun e w' => e = .returned (.bool (decide (t < f))) ∧ w' = w.alloc (.cells #[.int .i64 f, .int .i64 t] 31) := by
  go_enter Try.func12, Try.ntmps12
  go_wp2
  go_ret
  exact ⟨rfl, rfl⟩

theorem rem6 (x : Int) : 0 ≤ wrap64 ((IntKind.u64.wrap x).tmod 6) ∧ wrap64 ((IntKind.u64.wrap x).tmod 6) ≤ 5 := by
  have h0 : 0 ≤ IntKind.u64.wrap x := by
    simp only [IntKind.wrap, IntKind.signed, IntKind.bits, Bool.false_and, Bool.false_eq_true, if_false]
    omega
  rw [Int.tmod_eq_emod_of_nonneg h0]
  unfold wrap64
  omega

set_option maxRecDepth 100000 in
set_option maxHeartbeats 2000000 in
theorem room_walk (room : Int) (sa : Option Addr) (b o len cap : Nat) (l : Nat → Act) (w : World) (ha : 0 < len → sa = some ⟨b, o, none⟩) (hl : ∀ i, i < len → ActAt w b (o + i * 10) (l i)) :
    Calls Try.prog 3 #[.int .i64 room, .slice sa len cap] w fun e w' => e = .returned (.bool true) ∧ Fr (fun _ => False) w w' := by
  have hR := rem6 room
  have HL := Lib.hid hl
  have HA := Lib.hid ha
  clear hl ha
  go_enter Try.func3, Try.ntmps3
  go_wp2_with fail
  generalize wrap64 ((IntKind.u64.wrap room).tmod 6) = R at *
  refine (new_away R w hR.1 (by omega)).mono ?_
  rintro e w1 ⟨rfl, A1, F1, z1⟩
  generalize w.heap.size + 2 = c at *
  have Z1 := Lib.hid z1
  clear z1
  go_wp2_with fail
  go_loopw [7] (fun i wr => ∃ (k : Nat) (L : List Slot), k ≤ len ∧ i = .int .i64 k ∧ Away wr c (fun k => k < w.heap.size) R L ∧ (L.length : Int) ≤ R ∧ Fr (fun k => ¬ k < w.heap.size) w wr) (fun i _ => 100 - (intOf i).toNat)
  case atStart => exact ⟨0, [], Nat.zero_le _, rfl, A1, by simpa using hR.1, F1.mono (fun _ _ h => h.elim)⟩
  case round =>
    obtain ⟨k, L, hk, rfl, A2, hLR, F2⟩ := hrel
    by_cases hlt : k < len ∧ k < 100
    · obtain ⟨hk1, hk2⟩ := hlt
      obtain rfl := HA.out (by omega)
      obtain ⟨h0, h1, h2, h3, h4, h5, h6, h7, h8, h9⟩ := (HL.out k hk1).fr F2 (fun h => fun hn => hn h)
      generalize l k = a at *
      go_wp2_with fail
      obtain ⟨n, hn⟩ : ∃ n, n = wr.heap.size := ⟨_, rfl⟩
      have B3 := Blk.new wr 34 #[.int .i64 a.kind, .string a.s.key, .int .i64 a.s.k, .int .i64 a.s.date, .int .i64 a.s.reason, .int .i64 a.s.cause, .int .i64 a.s.fr, .int .i64 a.s.to, .int .i64 a.now, .slice a.ka a.kl a.kc]
      have F3 : Fr (fun _ => False) wr (wr.alloc (.cells #[.int .i64 a.kind, .string a.s.key, .int .i64 a.s.k, .int .i64 a.s.date, .int .i64 a.s.reason, .int .i64 a.s.cause, .int .i64 a.s.fr, .int .i64 a.s.to, .int .i64 a.now, .slice a.ka a.kl a.kc] 34)) := (Fr.refl wr).alloc _
      have A3 := A2.step (K' := fun k => k < w.heap.size ∨ k = n) F3 (fun _ _ h => h.elim) (fun k h => by omega)
      have G3 : Fr (fun k => ¬ k < w.heap.size) w (wr.alloc (.cells #[.int .i64 a.kind, .string a.s.key, .int .i64 a.s.k, .int .i64 a.s.date, .int .i64 a.s.reason, .int .i64 a.s.cause, .int .i64 a.s.fr, .int .i64 a.s.to, .int .i64 a.now, .slice a.ka a.kl a.kc] 34)) := F2.trans (F3.mono (fun _ _ h => h.elim))
      have hK3 : ∀ k, (k < w.heap.size ∨ k = n) → k < (wr.alloc (.cells #[.int .i64 a.kind, .string a.s.key, .int .i64 a.s.k, .int .i64 a.s.date, .int .i64 a.s.reason, .int .i64 a.s.cause, .int .i64 a.s.fr, .int .i64 a.s.to, .int .i64 a.now, .slice a.ka a.kl a.kc] 34)).heap.size := fun k h => by
        have := F2.size
        simp only [World.size_alloc]
        omega
      rw [← hn] at B3 ⊢
      clear h0 h1 h2 h3 h4 h5 h6 h7 h8 h9 F3 hn A2 F2
      generalize (wr.alloc (.cells #[.int .i64 a.kind, .string a.s.key, .int .i64 a.s.k, .int .i64 a.s.date, .int .i64 a.s.reason, .int .i64 a.s.cause, .int .i64 a.s.fr, .int .i64 a.s.to, .int .i64 a.now, .slice a.ka a.kl a.kc] 34)) = w3 at *
      have hpg := put_get R L a.s hR.1 hLR
      have HPG := Lib.hid hpg
      clear hpg
      obtain ⟨X1, hX1⟩ : ∃ X1, X1 = Obj.cells #[.int .i64 a.s.k, .int .i64 a.s.date, .int .i64 a.s.reason, .int .i64 a.s.cause] 29 := ⟨_, rfl⟩
      obtain ⟨X2, hX2⟩ : ∃ X2, X2 = Obj.cells #[.int .i64 a.s.k, .int .i64 a.s.date, .int .i64 a.s.reason, .int .i64 a.s.cause] 37 := ⟨_, rfl⟩
      have F4 : Fr (fun _ => False) w3 ((w3.drew.alloc X1).alloc X2) := ((Fr.refl w3).drew.alloc _).alloc _
      have A4 := A3.step (K' := fun k => k < w.heap.size ∨ k = n) F4 (fun _ _ h => h.elim) (fun k h => .inl h)
      have hK4 : ∀ k, (k < w.heap.size ∨ k = n) → k < ((w3.drew.alloc X1).alloc X2).heap.size := fun k h => Nat.lt_of_lt_of_le (hK3 k h) F4.size
      have B4 : Blk ((w3.drew.alloc X1).alloc X2) n _ _ := B3.fr F4 (fun h => h)
      rw [hX1, hX2] at A4 hK4 B4 F4
      clear hX1 hX2
      have S3 := B3.cell
      go_region_held3 (fun w' => ∀ i, w'.cell? ⟨n, i, none⟩ = (#[.int .i64 a.kind, .string a.s.key, .int .i64 a.s.k, .int .i64 a.s.date, .int .i64 a.s.reason, .int .i64 a.s.cause, .int .i64 a.s.fr, .int .i64 a.s.to, .int .i64 a.now, .slice a.ka a.kl a.kc] : Array Value)[i]?) (first | exact B3.cell | exact B4.cell | exact B5.cell) (first
        | (go_at_call 10; refine (status_any _ _ _ _ _).mono ?_; rintro e w4 ⟨rfl, rfl⟩)
        | (go_at_call 9; refine (put_away A4 hK4 a.s).mono ?_; rintro e w5 ⟨rfl, A5, F5⟩; have B5 := B4.fr F5 (fun h => h (.inr rfl))))
      have hK5 : ∀ k, (k < w.heap.size ∨ k = n) → k < w5.heap.size := fun k h => Nat.lt_of_lt_of_le (hK4 k h) F5.size
      have G5 : Fr (fun k => ¬ k < w.heap.size) w w5 := (G3.trans (F4.mono (fun _ _ h => h.elim))).trans (F5.mono (fun _ _ h => fun hk => h (.inl hk)))
      have S5 := B5.cell
      clear A3 B3 A4 B4 F4 F5 G3 hK3 hK4 S3
      obtain ⟨p, hp⟩ : ∃ p, p = putS R L a.s := ⟨_, rfl⟩
      rw [← hp] at A5 HPG ⊢
      clear hp
      rcases HPG.out with ⟨c1, c2, c3, c4, c5⟩ | ⟨c1, c3, c4, c5⟩
      · rw [c3]
        clear HPG
        have HC3 := Lib.hid c3
        have HC4 := Lib.hid c4
        clear c3 c4
        go_wp2_with fail
        refine (get_away A5 a.s.key a.s.fr).mono ?_
        rintro e w6 ⟨rfl, A6, F6⟩
        rw [HC4.out] at A6 ⊢
        rw [show told (some a.s) = .tuple #[.agg #[.int .i64 a.s.k, .int .i64 a.s.date, .int .i64 a.s.reason, .int .i64 a.s.cause], .bool true] from rfl]
        simp only at A6
        have B6 := B5.fr F6 (fun h => h (.inr rfl))
        have S6 := B6.cell
        have hn6 : n < w6.heap.size := B6.lt
        have hal := alloc_old
        go_wp2_with (go_at_call 12; refine (empty11_any _ _ _).mono ?_; rintro e w7 ⟨rfl, rfl⟩)
        obtain ⟨n2, hn2⟩ : ∃ n2, n2 = w6.heap.size := ⟨_, rfl⟩
        have C8 : Blk ((w6.alloc (.cells #[.int .i64 a.s.k, .int .i64 a.s.date, .int .i64 a.s.reason, .int .i64 a.s.cause] 37)).alloc (.cells #[.int .i64 a.s.fr, .int .i64 a.s.to] 31)) n2 37 #[.int .i64 a.s.k, .int .i64 a.s.date, .int .i64 a.s.reason, .int .i64 a.s.cause] := by rw [hn2]; exact (Blk.new w6 _ _).alloc _
        have F8 : Fr (fun _ => False) w6 ((w6.alloc (.cells #[.int .i64 a.s.k, .int .i64 a.s.date, .int .i64 a.s.reason, .int .i64 a.s.cause] 37)).alloc (.cells #[.int .i64 a.s.fr, .int .i64 a.s.to] 31)) := ((Fr.refl w6).alloc _).alloc _
        have B8 := B6.fr F8 (fun h => h)
        have A8 := A6.step (K' := fun k => k < w.heap.size) F8 (fun _ _ h => h.elim) (fun k h => .inl (.inl h))
        have G8 := (G5.trans (F6.mono (fun _ _ h => fun hk => h (.inl hk)))).trans (F8.mono (fun _ _ h => h.elim))
        rw [← hn2]
        generalize ((w6.alloc (.cells #[.int .i64 a.s.k, .int .i64 a.s.date, .int .i64 a.s.reason, .int .i64 a.s.cause] 37)).alloc (.cells #[.int .i64 a.s.fr, .int .i64 a.s.to] 31)) = w8 at *
        clear F8 F6 A6 B6 S6 hn6 hal B5 S5 A5 hn2 G5 hK5
        have A9 := A8.step (K' := fun k => k < w.heap.size) ((Fr.refl w8).drew (S := fun _ => False)) (fun _ _ h => h.elim) (fun k h => .inl h)
        have hd1 : decide (R < (p.2.length : Int)) = false := by simpa using c5
        have hd2 : decide (0 < R) = true := by simpa using c2
        have hd3 : decide (a.s.to < a.s.fr) = false := by simpa using c1
        have B9 : Blk ((w8.drew.alloc (.cells #[.int .i64 a.s.k, .int .i64 a.s.date, .int .i64 a.s.reason, .int .i64 a.s.cause] 29)).alloc (.cells #[.int .i64 a.s.k, .int .i64 a.s.date, .int .i64 a.s.reason, .int .i64 a.s.cause] 37)) n _ _ := (B8.drew.alloc _).alloc _
        have C9 : Blk ((w8.drew.alloc (.cells #[.int .i64 a.s.k, .int .i64 a.s.date, .int .i64 a.s.reason, .int .i64 a.s.cause] 29)).alloc (.cells #[.int .i64 a.s.k, .int .i64 a.s.date, .int .i64 a.s.reason, .int .i64 a.s.cause] 37)) n2 _ _ := (C8.drew.alloc _).alloc _
        go_region_held3 (fun w' => (∀ i, w'.cell? ⟨n, i, none⟩ = (#[.int .i64 a.kind, .string a.s.key, .int .i64 a.s.k, .int .i64 a.s.date, .int .i64 a.s.reason, .int .i64 a.s.cause, .int .i64 a.s.fr, .int .i64 a.s.to, .int .i64 a.now, .slice a.ka a.kl a.kc] : Array Value)[i]?) ∧ ∀ i, w'.cell? ⟨n2, i, none⟩ = (#[.int .i64 a.s.k, .int .i64 a.s.date, .int .i64 a.s.reason, .int .i64 a.s.cause] : Array Value)[i]?) (first | exact ⟨B8.cell, C8.cell⟩ | exact ⟨B9.cell, C9.cell⟩) (first
          | (go_at_call 10; refine (status_any _ _ _ _ _).mono ?_; rintro e w4 ⟨rfl, rfl⟩)
          | (go_at_call 13; refine (len_any A9).mono ?_; rintro e w5 ⟨rfl, rfl⟩))
        have F10 : Fr (fun _ => False) w8 (((w8.alloc (.cells #[.int .i64 a.s.k, .int .i64 a.s.date, .int .i64 a.s.reason, .int .i64 a.s.cause] 29)).alloc (.cells #[.int .i64 a.s.k, .int .i64 a.s.date, .int .i64 a.s.reason, .int .i64 a.s.cause] 37)).drew) := (((Fr.refl w8).alloc _).alloc _).drew
        have A10 := A8.step (K' := fun k => k < w.heap.size) F10 (fun _ _ h => h.elim) (fun k h => .inl h)
        have G10 := G8.trans (F10.mono (fun _ _ h => h.elim))
        generalize (((w8.alloc (.cells #[.int .i64 a.s.k, .int .i64 a.s.date, .int .i64 a.s.reason, .int .i64 a.s.cause] 29)).alloc (.cells #[.int .i64 a.s.k, .int .i64 a.s.date, .int .i64 a.s.reason, .int .i64 a.s.cause] 37)).drew) = w10 at *
        clear F10 A8 A9 B8 B9 C8 C9 G8 hd1 hd2 hd3
        have HC5 := Lib.hid c5
        clear c5 c1 c2
        go_wp2_with fail
        go_roundw
        case rel => exact ⟨k + 1, p.2, by omega, by go_num, A10, HC5.out, G10⟩
        case measure => simp [intOf]; omega
      · clear HPG
        have HC4 := Lib.hid c4
        clear c4
        have hp1 : (p.1 == 0) = false := by simpa using c3
        have hp2 : (p.1 != 0) = true := by simpa using c3
        go_wp2_with fail
        refine (get_away A5 a.s.key a.s.fr).mono ?_
        rintro e w6 ⟨rfl, A6, F6⟩
        rw [HC4.out] at A6 ⊢
        rw [show told none = .tuple #[.agg #[.int .i64 0, .int .i64 0, .int .i64 0, .int .i64 0], .bool false] from rfl]
        simp only at A6
        have B6 := B5.fr F6 (fun h => h (.inr rfl))
        have S6 := B6.cell
        have hn6 : n < w6.heap.size := B6.lt
        have hal := alloc_old
        go_wp2_with (go_at_call 12; refine (empty11_any _ _ _).mono ?_; rintro e w7 ⟨rfl, rfl⟩)
        obtain ⟨n2, hn2⟩ : ∃ n2, n2 = w6.heap.size := ⟨_, rfl⟩
        have C8 : Blk ((w6.alloc (.cells #[.int .i64 0, .int .i64 0, .int .i64 0, .int .i64 0] 37)).alloc (.cells #[.int .i64 a.s.fr, .int .i64 a.s.to] 31)) n2 37 #[.int .i64 0, .int .i64 0, .int .i64 0, .int .i64 0] := by rw [hn2]; exact (Blk.new w6 _ _).alloc _
        have F8 : Fr (fun _ => False) w6 ((w6.alloc (.cells #[.int .i64 0, .int .i64 0, .int .i64 0, .int .i64 0] 37)).alloc (.cells #[.int .i64 a.s.fr, .int .i64 a.s.to] 31)) := ((Fr.refl w6).alloc _).alloc _
        have B8 := B6.fr F8 (fun h => h)
        have A8 := A6.step (K' := fun k => k < w.heap.size) F8 (fun _ _ h => h.elim) (fun k h => .inl (.inl h))
        have G8 := (G5.trans (F6.mono (fun _ _ h => fun hk => h (.inl hk)))).trans (F8.mono (fun _ _ h => h.elim))
        rw [← hn2]
        generalize ((w6.alloc (.cells #[.int .i64 0, .int .i64 0, .int .i64 0, .int .i64 0] 37)).alloc (.cells #[.int .i64 a.s.fr, .int .i64 a.s.to] 31)) = w8 at *
        clear F8 F6 A6 B6 S6 hn6 hal B5 S5 A5 hn2 G5 hK5
        have A9 := A8.step (K' := fun k => k < w.heap.size) ((Fr.refl w8).drew (S := fun _ => False)) (fun _ _ h => h.elim) (fun k h => .inl h)
        have hd1 : decide (R < (p.2.length : Int)) = false := by simpa using c5
        have S8 := B8.cell
        have T8 := C8.cell
        by_cases hr : 0 < R
        · have hd2 : decide (0 < R) = true := by simpa using hr
          have hd3 : decide (a.s.to < a.s.fr) = true := by simp; omega
          go_quiet ((go_at_call 13; exact Calls.quiet_of_same ((len_any (A8.step (K' := fun k => k < w.heap.size) ((Fr.refl w8).drewN (S := fun _ => False) _) (fun _ _ h => h.elim) (fun k h => .inl h))).mono (fun _ _ ⟨h1, h2⟩ => ⟨h1, h2.symm⟩))))
          have G10 := G8.drewN nq
          have A10 := A8.step (K' := fun k => k < w.heap.size) ((Fr.refl w8).drewN (S := fun _ => False) nq) (fun _ _ h => h.elim) (fun k h => .inl h)
          generalize w8.drewN nq = w10 at *
          clear A8 A9 B8 C8 G8 S8 T8 hd1 hd2 hd3 hp1 hp2
          have HC5 := Lib.hid c5
          clear c5 c1 c3
          go_wp2_with fail
          go_roundw
          case rel => exact ⟨k + 1, p.2, by omega, by go_num, A10, HC5.out, G10⟩
          case measure => simp [intOf]; omega
        · have hd2 : decide (0 < R) = false := by simpa using hr
          go_quiet ((go_at_call 13; exact Calls.quiet_of_same ((len_any (A8.step (K' := fun k => k < w.heap.size) ((Fr.refl w8).drewN (S := fun _ => False) _) (fun _ _ h => h.elim) (fun k h => .inl h))).mono (fun _ _ ⟨h1, h2⟩ => ⟨h1, h2.symm⟩))))
          have G10 := G8.drewN nq
          have A10 := A8.step (K' := fun k => k < w.heap.size) ((Fr.refl w8).drewN (S := fun _ => False) nq) (fun _ _ h => h.elim) (fun k h => .inl h)
          generalize w8.drewN nq = w10 at *
          clear A8 A9 B8 C8 G8 S8 T8 hd1 hd2 hp1 hp2
          have HC5 := Lib.hid c5
          clear c5 c1 c3
          go_wp2_with fail
          go_roundw
          case rel => exact ⟨k + 1, p.2, by omega, by go_num, A10, HC5.out, G10⟩
          case measure => simp [intOf]; omega
    · have hno : k < len → ¬ (k : Int) < 100 := fun h => by omega
      by_cases hkl : k < len
      · have h100 := hno hkl
        clear hno hlt
        go_wp2_with fail
        refine (known_any wr).mono ?_
        rintro e w2 ⟨rfl, F9⟩
        go_wp2_with fail
        go_ret
        exact ⟨rfl, (F2.trans (F9.mono (fun _ _ h => h.elim))).mono (fun i hi h => h hi)⟩
      · clear hno hlt
        go_wp2_with fail
        refine (known_any wr).mono ?_
        rintro e w2 ⟨rfl, F9⟩
        go_wp2_with fail
        go_ret
        exact ⟨rfl, (F2.trans (F9.mono (fun _ _ h => h.elim))).mono (fun i hi h => h hi)⟩
end Go.Proofs.Ytjcjebmlibllbaa
