/-
  The walk of the cache's Get.
-/
import Derived.Test.YtjcjebmlibllbaaCaPut
namespace Go.Proofs.Ytjcjebmlibllbaa
open Go Go.RowKit Go.Q

/-- What Get tells of a slot, or of none. -/
def told (o : Option Slot) : Value :=
  .tuple #[.agg (match o with | some s => #[.int .i64 s.k, .int .i64 s.date, .int .i64 s.reason, .int .i64 s.cause] | none => #[.int .i64 0, .int .i64 0, .int .i64 0, .int .i64 0]), .bool o.isSome]

set_option maxHeartbeats 2000000 in
theorem get_any (w : World) (c r m : Nat) (room : Int) (bs : List Nat) (D : Nat → Slot) (hC : CacheAt w c r m room bs D) (key : ByteArray) (now : Int) :
    Calls Try.prog 11 #[pt c, .string key, .int .i64 now] w fun e w' =>
      ∃ bs', e = .returned (told (getS (bs.map D) key now).1) ∧ CacheAt w' c r m room bs' D ∧ bs'.map D = (getS (bs.map D) key now).2 ∧ Fr (· ∈ c :: m :: r :: bs) w w' ∧ ∀ b ∈ bs', b ∈ bs := by
  obtain ⟨W, hW⟩ : ∃ W, W = w.alloc (.cells #[.int .i64 0, .int .i64 0, .int .i64 0, .int .i64 0] 37) := ⟨_, rfl⟩
  have F : Fr (fun _ => False) w W := by rw [hW]; exact (Fr.refl w).alloc _
  have FS : Fr (· ∈ c :: m :: r :: bs) w W := F.mono (fun _ _ h => h.elim)
  have C := hC.fr F (fun _ _ h => h)
  have hkn := keys_of C.map
  have ec := C.cc.cell 2
  simp at ec
  rcases Classical.em (∃ b ∈ bs, (D b).key = key) with ⟨b, hb, hbk⟩ | hno
  · have hl := C.map.found (P := Try.prog) (K := 9) (t := 63) Try.underlying9 Try.underlying63 (k := key) (v := pt b) (List.mem_map.2 ⟨b, hb, by simp [hbk]⟩) true
    simp only [if_true] at hl
    have hlk : lookS key (bs.map D) = some (D b) := hbk ▸ lookS_map hkn hb
    obtain ⟨A, H, R⟩ := C.ring
    have kb := R.blk b (List.mem_cons_of_mem _ hb)
    have e7 := kb.cell 7
    have e8 := kb.cell 8
    simp [slotCells] at e7 e8
    rw [hW] at hl ec e7 e8
    obtain ⟨W2, hW2⟩ : ∃ W2, W2 = W.alloc (.cells #[.int .i64 (D b).fr, .int .i64 (D b).to] 39) := ⟨_, rfl⟩
    have F2 : Fr (fun _ => False) w W2 := by rw [hW2]; exact F.alloc _
    have C2 := hC.fr F2 (fun _ _ h => h)
    have B2 : Blk W2 w.heap.size 37 #[.int .i64 0, .int .i64 0, .int .i64 0, .int .i64 0] := by rw [hW2, hW]; exact (Blk.new w _ _).alloc _
    rw [hW] at hW2
    have HW2 := Lib.hid hW2
    clear hW2
    have hwl : w.heap.size ∉ c :: m :: r :: bs := fun h => Nat.lt_irrefl _ (hC.lt _ h)
    by_cases hin : (D b).fr ≤ now ∧ now ≤ (D b).to
    · have hd : decide ((D b).fr ≤ now ∧ now ≤ (D b).to) = true := by simpa using hin
      have hg : getS (bs.map D) key now = (some (D b), del key (bs.map D) ++ [D b]) := by simp [getS, hlk, hin]
      have HG := Lib.hid hg
      clear hg hin hlk
      go_enter Try.func11, Try.ntmps11
      go_wp2_with (go_at_call 27; refine (in_span_any _ _ _ _).mono ?_; rintro e w' ⟨rfl, hw'⟩; obtain rfl : W2 = w' := HW2.out.trans hw'.symm; clear hw')
      refine (use_any W2 c r m b room bs D C2 hb).mono ?_
      rintro e w3 ⟨rfl, C3, F3⟩
      have F3' : Fr (· ∈ c :: m :: r :: bs) w w3 := (F2.mono (fun _ _ h => h.elim)).trans F3
      have B3 := B2.fr F3 hwl
      obtain ⟨A3, H3, R3⟩ := C3.ring
      have kb3 := R3.blk b (by simp)
      have k3 := kb3.cell 3
      have k4 := kb3.cell 4
      have k5 := kb3.cell 5
      have k6 := kb3.cell 6
      simp [slotCells] at k3 k4 k5 k6
      have z0 := B3.cell 0
      have z1 := B3.cell 1
      have z2 := B3.cell 2
      have z3 := B3.cell 3
      simp at z0 z1 z2 z3
      have y0 := B3.frozen
      clear hl ec e7 e8 hd
      go_wp2_with fail
      obtain ⟨W7, hW7⟩ : ∃ W7, W7 = ((((w3.setCell ⟨w.heap.size, 0, none⟩ (.int .i64 (D b).k)).setCell ⟨w.heap.size, 1, none⟩ (.int .i64 (D b).date)).setCell ⟨w.heap.size, 2, none⟩ (.int .i64 (D b).reason)).setCell ⟨w.heap.size, 3, none⟩ (.int .i64 (D b).cause)) := ⟨_, rfl⟩
      rw [← hW7]
      have B7 : Blk W7 w.heap.size 37 #[.int .i64 (D b).k, .int .i64 (D b).date, .int .i64 (D b).reason, .int .i64 (D b).cause] := by
        have h := (((B3.set 0 (.int .i64 (D b).k)).set 1 (.int .i64 (D b).date)).set 2 (.int .i64 (D b).reason)).set 3 (.int .i64 (D b).cause)
        rw [← hW7] at h
        exact h
      have F7 : Fr (fun k => k = w.heap.size) w3 W7 := by
        rw [hW7]
        exact ((((Fr.refl w3).setCell (S := fun k => k = w.heap.size) (p := ⟨w.heap.size, 0, none⟩) (fun _ => rfl) _).setCell (p := ⟨w.heap.size, 1, none⟩) (fun _ => rfl) _).setCell (p := ⟨w.heap.size, 2, none⟩) (fun _ => rfl) _).setCell (p := ⟨w.heap.size, 3, none⟩) (fun _ => rfl) _
      have n0 := B7.cell 0
      have n1 := B7.cell 1
      have n2 := B7.cell 2
      have n3 := B7.cell 3
      simp at n0 n1 n2 n3
      clear hW7
      refine bodyPost_ret (v := told (some (D b))) (by simp [results, Try.results11, go_sem, n0, n1, n2, n3, told]) rfl ?_
      have HL : (bs.erase b ++ [b]).map D = del key (bs.map D) ++ [D b] := by rw [List.map_append, erase_map hkn hb, hbk]; rfl
      have hmem : ∀ x ∈ bs.erase b ++ [b], x ∈ bs := fun x hx => by
        rcases List.mem_append.1 hx with h | h
        · exact List.mem_of_mem_erase h
        · simp at h; subst h; exact hb
      refine ⟨bs.erase b ++ [b], by rw [HG.out], C3.fr F7 (fun k hk e => ?_), by rw [HG.out]; exact HL, F3'.trans' F7 (fun i hi e => absurd e (Nat.ne_of_lt hi)), hmem⟩
      subst e
      refine hwl ?_
      simp only [List.mem_cons] at hk ⊢
      rcases hk with h | h | h | h
      · exact .inl h
      · exact .inr (.inl h)
      · exact .inr (.inr (.inl h))
      · exact .inr (.inr (.inr (hmem _ h)))
    · have hd : decide ((D b).fr ≤ now ∧ now ≤ (D b).to) = false := by simpa using hin
      have hg : getS (bs.map D) key now = (none, del key (bs.map D)) := by simp [getS, hlk, hin]
      have HG := Lib.hid hg
      clear hg hin hlk
      go_enter Try.func11, Try.ntmps11
      go_wp2_with (go_at_call 27; refine (in_span_any _ _ _ _).mono ?_; rintro e w' ⟨rfl, hw'⟩; obtain rfl : W2 = w' := HW2.out.trans hw'.symm; clear hw')
      refine (gone_any W2 c r m b room bs D C2 hb).mono ?_
      rintro e w3 ⟨rfl, C3, F3⟩
      have F3' : Fr (· ∈ c :: m :: r :: bs) w w3 := (F2.mono (fun _ _ h => h.elim)).trans F3
      have B3 := B2.fr F3 hwl
      have z0 := B3.cell 0
      have z1 := B3.cell 1
      have z2 := B3.cell 2
      have z3 := B3.cell 3
      simp at z0 z1 z2 z3
      have y0 := B3.frozen
      clear hl ec e7 e8 hd
      go_wp2_with fail
      obtain ⟨W7, hW7⟩ : ∃ W7, W7 = ((((w3.setCell ⟨w.heap.size, 0, none⟩ (.int .i64 0)).setCell ⟨w.heap.size, 1, none⟩ (.int .i64 0)).setCell ⟨w.heap.size, 2, none⟩ (.int .i64 0)).setCell ⟨w.heap.size, 3, none⟩ (.int .i64 0)) := ⟨_, rfl⟩
      rw [← hW7]
      have B7 : Blk W7 w.heap.size 37 #[.int .i64 0, .int .i64 0, .int .i64 0, .int .i64 0] := by
        have h := (((B3.set 0 (.int .i64 0)).set 1 (.int .i64 0)).set 2 (.int .i64 0)).set 3 (.int .i64 0)
        rw [← hW7] at h
        exact h
      have F7 : Fr (fun k => k = w.heap.size) w3 W7 := by
        rw [hW7]
        exact ((((Fr.refl w3).setCell (S := fun k => k = w.heap.size) (p := ⟨w.heap.size, 0, none⟩) (fun _ => rfl) _).setCell (p := ⟨w.heap.size, 1, none⟩) (fun _ => rfl) _).setCell (p := ⟨w.heap.size, 2, none⟩) (fun _ => rfl) _).setCell (p := ⟨w.heap.size, 3, none⟩) (fun _ => rfl) _
      have n0 := B7.cell 0
      have n1 := B7.cell 1
      have n2 := B7.cell 2
      have n3 := B7.cell 3
      simp at n0 n1 n2 n3
      clear hW7
      refine bodyPost_ret (v := told none) (by simp [results, Try.results11, go_sem, n0, n1, n2, n3, told]) rfl ?_
      have hmem : ∀ x ∈ bs.erase b, x ∈ bs := fun x hx => List.mem_of_mem_erase hx
      refine ⟨bs.erase b, by rw [HG.out], C3.fr F7 (fun k hk e => ?_), by rw [HG.out, erase_map hkn hb, hbk], F3'.trans' F7 (fun i hi e => absurd e (Nat.ne_of_lt hi)), hmem⟩
      subst e
      refine hwl ?_
      simp only [List.mem_cons] at hk ⊢
      rcases hk with h | h | h | h
      · exact .inl h
      · exact .inr (.inl h)
      · exact .inr (.inr (.inl h))
      · exact .inr (.inr (.inr (hmem _ h)))
  · have hl := C.map.missing (P := Try.prog) (K := 9) (E := 61) (t := 63) Try.underlying9 Try.underlying63 zero_ptr (k := key) (by
      intro hm
      obtain ⟨p, hp, hpk⟩ := List.mem_map.1 hm
      obtain ⟨b, hb, rfl⟩ := List.mem_map.1 hp
      exact hno ⟨b, hb, hpk⟩) true
    simp only [if_true] at hl
    have hg : getS (bs.map D) key now = (none, bs.map D) := by
      have : lookS key (bs.map D) = none := lookS_none (fun s hs e => by
        obtain ⟨b, hb, rfl⟩ := List.mem_map.1 hs
        exact hno ⟨b, hb, e⟩)
      simp [getS, this]
    have B3 : Blk W w.heap.size 37 #[.int .i64 0, .int .i64 0, .int .i64 0, .int .i64 0] := by rw [hW]; exact Blk.new w _ _
    have HG := Lib.hid hg
    have HC := Lib.hid C
    have hwl : w.heap.size ∉ c :: m :: r :: bs := fun h => Nat.lt_irrefl _ (hC.lt _ h)
    rw [hW] at hl ec
    clear hg hno C hW
    go_enter Try.func11, Try.ntmps11
    go_wp2
    have F0 : Fr (fun _ => False) w (w.alloc (.cells #[.int .i64 0, .int .i64 0, .int .i64 0, .int .i64 0] 37)) := (Fr.refl w).alloc _
    exact bodyPost_ret (v := told none) (by simp [results, Try.results11, go_sem, told]) rfl ⟨bs, by rw [HG.out], hC.fr F0 (fun _ _ h => h), by rw [HG.out], F0.mono (fun _ _ h => h.elim), fun b hb => hb⟩
end Go.Proofs.Ytjcjebmlibllbaa
