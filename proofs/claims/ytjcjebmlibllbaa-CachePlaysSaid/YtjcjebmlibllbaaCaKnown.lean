/-
  The walk of the chapter's example: it is answered as the chapter says.
-/
import Derived.Test.YtjcjebmlibllbaaCaAway
namespace Go.Proofs.Ytjcjebmlibllbaa
open Go Go.RowKit Go.Q

def ba (l : List UInt8) : ByteArray := ⟨l.toArray⟩
def kn (b : UInt8) : Slot := ⟨⟨#[b]⟩, 1, 0, 0, 0, 0, 9⟩

set_option maxHeartbeats 2000000 in
theorem known_any (w : World) : Calls Try.prog 14 #[] w fun e w' => e = .returned (.bool true) ∧ Fr (fun _ => False) w w' := by
  go_enter Try.func14, Try.ntmps14
  go_wp2_with fail
  refine (new_away 2 w (by omega) (by omega)).mono ?_
  rintro e w1 ⟨rfl, A1, F1, z1⟩
  generalize w.heap.size + 2 = c at *
  have Z1 := Lib.hid z1
  clear z1
  go_wp2_with fail
  obtain ⟨n, hn⟩ : ∃ n, n = w1.heap.size := ⟨_, rfl⟩
  have hw : w.heap.size < n := by rw [hn, Z1.out]; omega
  have B1 : Blk ((w1.alloc (.cells #[.int .i64 0, .int .i64 9] 39)).alloc (.cells #[.int .i64 1, .int .i64 0, .int .i64 0, .int .i64 0] 37)) n 39 #[.int .i64 0, .int .i64 9] := by rw [hn]; exact (Blk.new w1 _ _).alloc _
  have B2 : Blk ((w1.alloc (.cells #[.int .i64 0, .int .i64 9] 39)).alloc (.cells #[.int .i64 1, .int .i64 0, .int .i64 0, .int .i64 0] 37)) (n + 1) 37 #[.int .i64 1, .int .i64 0, .int .i64 0, .int .i64 0] := by
    have := Blk.new (w1.alloc (.cells #[.int .i64 0, .int .i64 9] 39)) 37 #[.int .i64 1, .int .i64 0, .int .i64 0, .int .i64 0]
    simpa [hn] using this
  have F2 : Fr (fun _ => False) w1 ((w1.alloc (.cells #[.int .i64 0, .int .i64 9] 39)).alloc (.cells #[.int .i64 1, .int .i64 0, .int .i64 0, .int .i64 0] 37)) := ((Fr.refl w1).alloc _).alloc _
  have A2 := A1.step (K' := fun k => k < w.heap.size ∨ k = n ∨ k = n + 1) F2 (fun _ _ h => h.elim) (fun k h => by omega)
  have z2 : ((w1.alloc (.cells #[.int .i64 0, .int .i64 9] 39)).alloc (.cells #[.int .i64 1, .int .i64 0, .int .i64 0, .int .i64 0] 37)).heap.size = n + 2 := by simp [hn]
  have G2 : Fr (fun k => ¬ k < w.heap.size) w ((w1.alloc (.cells #[.int .i64 0, .int .i64 9] 39)).alloc (.cells #[.int .i64 1, .int .i64 0, .int .i64 0, .int .i64 0] 37)) := (F1.trans F2).mono (fun _ _ h => h.elim)
  rw [← hn]
  clear hn
  generalize ((w1.alloc (.cells #[.int .i64 0, .int .i64 9] 39)).alloc (.cells #[.int .i64 1, .int .i64 0, .int .i64 0, .int .i64 0] 37)) = w2 at *
  have hK2 : ∀ k, (k < w.heap.size ∨ k = n ∨ k = n + 1) → k < w2.heap.size := fun k h => by omega
  have Z2 := Lib.hid z2
  clear z2
  refine (put_away A2 hK2 (kn 97)).mono ?_
  rintro e w3 ⟨rfl, A3, F3⟩
  rw [show putS 2 [] (kn 97) = (0, [kn 97]) from by kernel_rfl] at A3 ⊢
  replace B1 := B1.fr F3 (by simp)
  replace B2 := B2.fr F3 (by simp)
  have hK3 := fun k h => Nat.lt_of_lt_of_le (hK2 k h) F3.size
  have G3 : Fr (fun k => ¬ k < w.heap.size) w w3 := G2.trans (F3.mono (fun i _ h => fun hi => h (.inl hi)))
  have a0 := B1.cell 0
  have a1 := B1.cell 1
  simp at a0 a1
  have b0 := B2.cell 0
  have b1 := B2.cell 1
  have b2 := B2.cell 2
  have b3 := B2.cell 3
  simp at b0 b1 b2 b3
  go_wp2_with fail
  refine (put_away A3 hK3 (kn 98)).mono ?_
  rintro e w4 ⟨rfl, A4, F4⟩
  rw [show putS 2 [kn 97] (kn 98) = (0, [kn 97, kn 98]) from by kernel_rfl] at A4 ⊢
  replace B1 := B1.fr F4 (by simp)
  replace B2 := B2.fr F4 (by simp)
  have hK4 := fun k h => Nat.lt_of_lt_of_le (hK3 k h) F4.size
  have G4 : Fr (fun k => ¬ k < w.heap.size) w w4 := G3.trans (F4.mono (fun i _ h => fun hi => h (.inl hi)))
  go_wp2_with fail
  have hal : ∀ (w : World) (o : Obj) (b i : Nat), b < w.heap.size → (w.alloc o).cell? ⟨b, i, none⟩ = w.cell? ⟨b, i, none⟩ := fun w o b i h => World.cell?_alloc_lt w o ⟨b, i, none⟩ h
  refine (get_away A4 ⟨#[97]⟩ 5).mono ?_
  rintro e w5 ⟨rfl, A5, F5⟩
  rw [show getS [kn 97, kn 98] ⟨#[97]⟩ 5 = (some (kn 97), [kn 98, kn 97]) from by kernel_rfl] at A5 ⊢
  rw [show told (some (kn 97)) = .tuple #[.agg #[.int .i64 1, .int .i64 0, .int .i64 0, .int .i64 0], .bool true] from rfl]
  replace B1 := B1.fr F5 (by simp)
  replace B2 := B2.fr F5 (by simp)
  have hK5 := fun k h => Nat.lt_of_lt_of_le (hK4 k h) F5.size
  have G5 : Fr (fun k => ¬ k < w.heap.size) w w5 := G4.trans (F5.mono (fun i _ h => fun hi => h (.inl hi)))
  have a0 := B1.cell 0
  have a1 := B1.cell 1
  simp at a0 a1
  have b0 := B2.cell 0
  have b1 := B2.cell 1
  have b2 := B2.cell 2
  have b3 := B2.cell 3
  simp at b0 b1 b2 b3
  have l1 : n < w5.heap.size := hK5 n (.inr (.inl rfl))
  have l2 : n + 1 < w5.heap.size := hK5 (n + 1) (.inr (.inr rfl))
  go_wp2_with fail
  obtain ⟨m7, hm7⟩ : ∃ m7, m7 = w5.heap.size := ⟨_, rfl⟩
  have F6 : Fr (fun _ => False) w5 (w5.alloc (.cells #[.int .i64 1, .int .i64 0, .int .i64 0, .int .i64 0] 37)) := (Fr.refl w5).alloc _
  have A6 := A5.step (K' := fun k => k < w.heap.size ∨ k = n ∨ k = n + 1 ∨ k = m7) F6 (fun _ _ h => h.elim) (fun k h => by omega)
  have B3 := Blk.new w5 37 #[.int .i64 1, .int .i64 0, .int .i64 0, .int .i64 0]
  replace B1 := B1.fr F6 (fun h => h)
  replace B2 := B2.fr F6 (fun h => h)
  have hK6 : ∀ k, (k < w.heap.size ∨ k = n ∨ k = n + 1 ∨ k = m7) → k < (w5.alloc (.cells #[.int .i64 1, .int .i64 0, .int .i64 0, .int .i64 0] 37)).heap.size := fun k h => by
    have := hK5 k
    simp only [World.size_alloc]
    omega
  have G6 : Fr (fun k => ¬ k < w.heap.size) w (w5.alloc (.cells #[.int .i64 1, .int .i64 0, .int .i64 0, .int .i64 0] 37)) := G5.trans (F6.mono (fun _ _ h => h.elim))
  rw [← hm7] at B3
  have Hm7 : ∀ k, (k < w.heap.size ∨ k = n ∨ k = n + 1) → k ≠ m7 := fun k h => by
    have := hK5 k
    omega
  generalize hW6 : (w5.alloc (.cells #[.int .i64 1, .int .i64 0, .int .i64 0, .int .i64 0] 37)) = w6 at *
  rw [← hm7]
  clear hW6 hm7
  refine (put_away A6 hK6 (kn 99)).mono ?_
  rintro e w7 ⟨rfl, A7, F7⟩
  rw [show putS 2 [kn 98, kn 97] (kn 99) = (0, [kn 97, kn 99]) from by kernel_rfl] at A7 ⊢
  replace B1 := B1.fr F7 (by simp)
  replace B2 := B2.fr F7 (by simp)
  replace B3 := B3.fr F7 (by simp)
  have hK7 := fun k h => Nat.lt_of_lt_of_le (hK6 k h) F7.size
  have G7 : Fr (fun k => ¬ k < w.heap.size) w w7 := G6.trans (F7.mono (fun i _ h => fun hi => h (.inl hi)))
  go_wp2_with fail
  refine (get_away A7 ⟨#[98]⟩ 5).mono ?_
  rintro e w8 ⟨rfl, A8, F8⟩
  rw [show getS [kn 97, kn 99] ⟨#[98]⟩ 5 = (none, [kn 97, kn 99]) from by kernel_rfl] at A8 ⊢
  rw [show told (none) = .tuple #[.agg #[.int .i64 0, .int .i64 0, .int .i64 0, .int .i64 0], .bool false] from rfl]
  replace B1 := B1.fr F8 (by simp)
  replace B2 := B2.fr F8 (by simp)
  replace B3 := B3.fr F8 (by simp)
  have hK8 := fun k h => Nat.lt_of_lt_of_le (hK7 k h) F8.size
  have G8 : Fr (fun k => ¬ k < w.heap.size) w w8 := G7.trans (F8.mono (fun i _ h => fun hi => h (.inl hi)))
  go_wp2_with fail
  obtain ⟨m10, hm10⟩ : ∃ m10, m10 = w8.heap.size := ⟨_, rfl⟩
  have F9 : Fr (fun _ => False) w8 (w8.alloc (.cells #[.int .i64 0, .int .i64 0, .int .i64 0, .int .i64 0] 37)) := (Fr.refl w8).alloc _
  have A9 := A8.step (K' := fun k => k < w.heap.size ∨ k = n ∨ k = n + 1 ∨ k = m7 ∨ k = m10) F9 (fun _ _ h => h.elim) (fun k h => by omega)
  have B4 := Blk.new w8 37 #[.int .i64 0, .int .i64 0, .int .i64 0, .int .i64 0]
  replace B1 := B1.fr F9 (fun h => h)
  replace B2 := B2.fr F9 (fun h => h)
  replace B3 := B3.fr F9 (fun h => h)
  have hK9 : ∀ k, (k < w.heap.size ∨ k = n ∨ k = n + 1 ∨ k = m7 ∨ k = m10) → k < (w8.alloc (.cells #[.int .i64 0, .int .i64 0, .int .i64 0, .int .i64 0] 37)).heap.size := fun k h => by
    have := hK8 k
    simp only [World.size_alloc]
    omega
  have G9 : Fr (fun k => ¬ k < w.heap.size) w (w8.alloc (.cells #[.int .i64 0, .int .i64 0, .int .i64 0, .int .i64 0] 37)) := G8.trans (F9.mono (fun _ _ h => h.elim))
  rw [← hm10] at B4
  have Hm10 : ∀ k, (k < w.heap.size ∨ k = n ∨ k = n + 1) → k ≠ m10 := fun k h => by
    have := hK8 k
    omega
  generalize hW9 : (w8.alloc (.cells #[.int .i64 0, .int .i64 0, .int .i64 0, .int .i64 0] 37)) = w9 at *
  rw [← hm10]
  clear hW9 hm10
  refine (get_away A9 ⟨#[97]⟩ 10).mono ?_
  rintro e w10 ⟨rfl, A10, F10⟩
  rw [show getS [kn 97, kn 99] ⟨#[97]⟩ 10 = (none, [kn 99]) from by kernel_rfl] at A10 ⊢
  rw [show told (none) = .tuple #[.agg #[.int .i64 0, .int .i64 0, .int .i64 0, .int .i64 0], .bool false] from rfl]
  replace B1 := B1.fr F10 (by simp)
  replace B2 := B2.fr F10 (by simp)
  replace B3 := B3.fr F10 (by simp)
  replace B4 := B4.fr F10 (by simp)
  have hK10 := fun k h => Nat.lt_of_lt_of_le (hK9 k h) F10.size
  have G10 : Fr (fun k => ¬ k < w.heap.size) w w10 := G9.trans (F10.mono (fun i _ h => fun hi => h (.inl hi)))
  have a0 := B1.cell 0
  have a1 := B1.cell 1
  simp at a0 a1
  have b0 := B2.cell 0
  have b1 := B2.cell 1
  have b2 := B2.cell 2
  have b3 := B2.cell 3
  simp at b0 b1 b2 b3
  have l1 : n < w10.heap.size := hK10 n (.inr (.inl rfl))
  have l2 : n + 1 < w10.heap.size := hK10 (n + 1) (.inr (.inr (.inl rfl)))
  have c0 := B3.cell 0
  have c1 := B3.cell 1
  have c2 := B3.cell 2
  have c3 := B3.cell 3
  simp at c0 c1 c2 c3
  have l3 : m7 < w10.heap.size := hK10 m7 (by simp)
  go_wp2_with fail
  have F11 : Fr (fun _ => False) w10 (w10.alloc (.cells #[.int .i64 0, .int .i64 0, .int .i64 0, .int .i64 0] 37)) := (Fr.refl w10).alloc _
  have A11 := A10.step (K' := fun k => k < w.heap.size) F11 (fun _ _ h => h.elim) (fun k h => .inl (.inl h))
  refine (len_any A11).mono ?_
  rintro e w12 ⟨rfl, rfl⟩
  go_wp2_with fail
  go_ret
  exact ⟨rfl, (G10.trans (F11.mono (fun _ _ h => h.elim))).mono (fun i hi h => h hi)⟩
end Go.Proofs.Ytjcjebmlibllbaa
