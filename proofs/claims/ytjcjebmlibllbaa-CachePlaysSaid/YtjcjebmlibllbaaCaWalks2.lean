/-
  The walks of the cache's inner steps over a cache in memory: a slot goes, a slot was used.
-/
import Derived.Test.YtjcjebmlibllbaaCaWalks1
import Derived.Test.YtjcjebmlibllbaaCaRing
import Derived.Test.YtjcjebmlibllbaaMaps
namespace Go.Proofs.Ytjcjebmlibllbaa
open Go Go.RowKit Go.Q

/-- A cache in memory: its own block c, the ring's r, the map's m, the slots' blocks from the one that wasn't used the longest on. -/
structure CacheAt (w : World) (c r m : Nat) (room : Int) (bs : List Nat) (D : Nat → Slot) : Prop where
  cc : Blk w c 65 #[.int .i64 room, pt r, .map (some m)]
  ring : ∃ A H, Ring w 72 r bs D A H
  map : MapIs w m (bs.map fun b => ((D b).key, pt b))
  nd : c ∉ r :: bs

theorem CacheAt.fr {S : Nat → Prop} {w w' : World} {c r m : Nat} {room : Int} {bs : List Nat} {D : Nat → Slot} (h : CacheAt w c r m room bs D) (f : Fr S w w') (hS : ∀ k ∈ c :: m :: r :: bs, ¬ S k) : CacheAt w' c r m room bs D := by
  obtain ⟨h1, ⟨A, H, h2⟩, h3, h4⟩ := h
  exact ⟨h1.fr f (hS c (by simp)), ⟨A, H, h2.fr f (fun b hb => hS b (List.mem_cons_of_mem _ (List.mem_cons_of_mem _ hb)))⟩, h3.fr f (hS m (by simp)), h4⟩

theorem CacheAt.lt {w : World} {c r m : Nat} {room : Int} {bs : List Nat} {D : Nat → Slot} (h : CacheAt w c r m room bs D) : ∀ k ∈ c :: m :: r :: bs, k < w.heap.size := by
  obtain ⟨h1, ⟨A, H, h2⟩, h3, h4⟩ := h
  intro k hk
  rcases List.mem_cons.1 hk with rfl | hk
  · exact h1.lt
  rcases List.mem_cons.1 hk with rfl | hk
  · exact h3.lt
  · exact (h2.blk k hk).lt

/-- What stands behind 'out': the ring without b, all else as it was. -/
theorem out_mid {w w1 : World} {c r m b n : Nat} {room : Int} {bs : List Nat} {D : Nat → Slot} {A H : Nat → Nat} (h1 : Blk w c 65 #[.int .i64 room, pt r, .map (some m)])
    (h2 : Ring w 72 r bs D A H) (h3 : MapIs w m (bs.map fun b => ((D b).key, pt b))) (h4 : c ∉ r :: bs) (hb : b ∈ bs)
    (hw1 : w1 = ((w.setCell ⟨A b, 1, none⟩ (pt (H b))).setCell ⟨H b, 0, none⟩ (pt (A b))).drewN n) :
    Ring w1 72 r (bs.erase b) D (upd A (H b) (A b)) (upd H (A b) (H b)) ∧ Fr (· ∈ r :: bs) w w1 ∧ Blk w1 c 65 #[.int .i64 room, pt r, .map (some m)] ∧
    Blk w1 b 72 (slotCells (A b) (H b) (D b)) ∧ MapIs w1 m (bs.map fun b => ((D b).key, pt b)) ∧ c ≠ m ∧ ∀ k ∈ r :: bs, k ≠ m := by
  obtain ⟨hA, hH, hbA, hbH⟩ := h2.near hb
  have kb := h2.blk b (by simp [hb])
  have F1 : Fr (· ∈ r :: bs) w w1 := by
    have f1 : Fr (· ∈ r :: bs) w (w.setCell ⟨A b, 1, none⟩ (pt (H b))) := (Fr.refl w).setCell (fun _ => hA) _
    have f2 : Fr (· ∈ r :: bs) w ((w.setCell ⟨A b, 1, none⟩ (pt (H b))).setCell ⟨H b, 0, none⟩ (pt (A b))) := f1.setCell (fun _ => hH) _
    rw [hw1]; exact f2.drewN n
  refine ⟨?_, F1, h1.fr F1 h4, ?_, h3.fr F1 (fun hm => h3.ne_blk (h2.blk m hm) rfl), h3.ne_blk h1, fun k hk => h3.ne_blk (h2.blk k hk)⟩
  · rw [hw1]; exact (h2.out hb).of_heap rfl
  · have k1 : Blk (w.setCell ⟨A b, 1, none⟩ (pt (H b))) b 72 (slotCells (A b) (H b) (D b)) := kb.set_other hbA _
    have k2 := k1.set_other (a := ⟨H b, 0, none⟩) hbH (pt (A b))
    rw [hw1]; exact k2

theorem perm_map_erase {bs : List Nat} {b : Nat} (hb : b ∈ bs) (f : Nat → ByteArray × Value) : (bs.map f).Perm (f b :: (bs.erase b).map f) := by
  have := (List.perm_cons_erase hb).map f
  simpa using this

set_option maxHeartbeats 1000000 in
theorem gone_any (w : World) (c r m b : Nat) (room : Int) (bs : List Nat) (D : Nat → Slot) (hC : CacheAt w c r m room bs D) (hb : b ∈ bs) :
    Calls Try.prog 24 #[pt c, pt b] w fun e w' => e = .returned (.tuple #[]) ∧ CacheAt w' c r m room (bs.erase b) D ∧ Fr (· ∈ c :: m :: r :: bs) w w' := by
  obtain ⟨h1, ⟨A, H, h2⟩, h3, h4⟩ := hC
  obtain ⟨hA, hH, hbA, hbH⟩ := h2.near hb
  have kb := h2.blk b (by simp [hb])
  have kA := h2.blk _ hA
  have kH := h2.blk _ hH
  go_enter Try.func24, Try.ntmps24
  go_wp2_with fail
  refine (out_any w b (A b) (H b) _ _ (kb.cell 0) (kb.cell 1) (kA.cell 1) (kH.cell 0) (kA.frozen 1) (kH.frozen 0) hbA hbH).mono ?_
  rintro e w1 ⟨rfl, n, hw1⟩
  obtain ⟨R1, F1, c1, b1, m1, mc, mk⟩ := out_mid h1 h2 h3 h4 hb hw1
  clear hw1
  obtain ⟨o, hrun, hdrop⟩ := MapIs.drop (w := w1.drew) (K := 9) (t := 63) m1 Try.underlying9 Try.underlying63 (k := (D b).key) (v := pt b) (List.mem_map.2 ⟨b, hb, rfl⟩) (E' := 9) (T := 0)
  have e1 := c1.cell 2
  have e2 := b1.cell 2
  simp at e1
  simp [slotCells] at e2
  go_wp2_with fail
  go_region
  go_wp2
  go_end0
  refine ⟨rfl, ⟨c1.drew.setObj mc _, ⟨_, _, R1.fr (S := fun k => k = m) (Fr.setObj (S := fun k => k = m) (m := m) (Fr.refl w1).drew (fun _ => rfl) _) ?_⟩, hdrop _ (perm_map_erase hb _), ?_⟩, ?_⟩
  · intro k hk
    refine mk k ?_
    rcases List.mem_cons.1 hk with rfl | hk
    · exact List.mem_cons_self
    · exact List.mem_cons_of_mem _ (List.mem_of_mem_erase hk)
  · intro hc
    refine h4 ?_
    rcases List.mem_cons.1 hc with rfl | hc
    · exact List.mem_cons_self
    · exact List.mem_cons_of_mem _ (List.mem_of_mem_erase hc)
  · exact (F1.mono (fun i _ hi => List.mem_cons_of_mem _ (List.mem_cons_of_mem _ hi))).drew.setObj (fun _ => List.mem_cons_of_mem _ List.mem_cons_self) _

/-- What stands behind 'in': the ring with n at its end. -/
theorem in_mid {w w1 : World} {c r m n : Nat} {a0 h0 : Value} {room : Int} {bs : List Nat} {D : Nat → Slot} {A H : Nat → Nat} {d : Slot} {l : List (ByteArray × Value)} (h1 : Blk w c 65 #[.int .i64 room, pt r, .map (some m)])
    (h2 : Ring w 72 r bs D A H) (h3 : MapIs w m l) (h4 : c ∉ r :: bs) (hn : n ∉ r :: bs) (hb : Blk w n 72 (slotCells' a0 h0 d)) (hcn : c ≠ n)
    (hw1 : w1 = (((w.setCell ⟨n, 0, none⟩ (pt (A r))).setCell ⟨n, 1, none⟩ (pt r)).setCell ⟨A r, 1, none⟩ (pt n)).setCell ⟨r, 0, none⟩ (pt n)) :
    Ring w1 72 r (bs ++ [n]) (fun b => if b = n then d else D b) (upd (upd A n (A r)) r n) (upd (upd H n r) (A r) n) ∧ Fr (· ∈ n :: r :: bs) w w1 ∧ Blk w1 c 65 #[.int .i64 room, pt r, .map (some m)] ∧
    Blk w1 n 72 (slotCells (upd (upd A n (A r)) r n n) (upd (upd H n r) (A r) n n) d) ∧ MapIs w1 m l ∧ c ≠ m ∧ ∀ k ∈ n :: r :: bs, k ≠ m := by
  obtain ⟨hA, R⟩ := h2.inn hn hb
  rw [← hw1] at R
  have f1 : Fr (· ∈ n :: r :: bs) w (w.setCell ⟨n, 0, none⟩ (pt (A r))) := Fr.setCell (S := (· ∈ n :: r :: bs)) (Fr.refl w) (fun _ => List.mem_cons_self) _
  have f2 := f1.setCell (p := ⟨n, 1, none⟩) (fun _ => List.mem_cons_self) (pt r)
  have f3 := f2.setCell (p := ⟨A r, 1, none⟩) (fun _ => List.mem_cons_of_mem _ hA) (pt n)
  have f4 := f3.setCell (p := ⟨r, 0, none⟩) (fun _ => List.mem_cons_of_mem _ List.mem_cons_self) (pt n)
  rw [← hw1] at f4
  have mk : ∀ k ∈ n :: r :: bs, k ≠ m := fun k hk => by
    rcases List.mem_cons.1 hk with rfl | hk
    · exact h3.ne_blk hb
    · exact h3.ne_blk (h2.blk k hk)
  refine ⟨R, f4, h1.fr f4 (fun hc => ?_), ?_, h3.fr f4 (fun hm => mk m hm rfl), h3.ne_blk h1, mk⟩
  · rcases List.mem_cons.1 hc with e | hc
    · exact hcn e
    · exact h4 hc
  · have := R.blk n (by simp)
    simpa using this

set_option maxHeartbeats 1000000 in
theorem use_any (w : World) (c r m b : Nat) (room : Int) (bs : List Nat) (D : Nat → Slot) (hC : CacheAt w c r m room bs D) (hb : b ∈ bs) :
    Calls Try.prog 28 #[pt c, pt b] w fun e w' => e = .returned (.tuple #[]) ∧ CacheAt w' c r m room (bs.erase b ++ [b]) D ∧ Fr (· ∈ c :: m :: r :: bs) w w' := by
  obtain ⟨h1, ⟨A, H, h2⟩, h3, h4⟩ := hC
  obtain ⟨hA, hH, hbA, hbH⟩ := h2.near hb
  have kb := h2.blk b (by simp [hb])
  have kA := h2.blk _ hA
  have kH := h2.blk _ hH
  go_enter Try.func28, Try.ntmps28
  go_wp2_with fail
  refine (out_any w b (A b) (H b) _ _ (kb.cell 0) (kb.cell 1) (kA.cell 1) (kH.cell 0) (kA.frozen 1) (kH.frozen 0) hbA hbH).mono ?_
  rintro e w1 ⟨rfl, n, hw1⟩
  obtain ⟨R1, F1, c1, b1, m1, mc, mk⟩ := out_mid h1 h2 h3 h4 hb hw1
  clear hw1
  have hnb : b ∉ r :: bs.erase b := by
    have := h2.nodup
    simp only [List.nodup_cons] at this
    intro hm
    rcases List.mem_cons.1 hm with e | hm
    · exact this.1 (e ▸ hb)
    · exact (List.Nodup.not_mem_erase this.2) hm
  have hsub : ∀ k ∈ r :: bs.erase b, k ∈ r :: bs := fun k hk => by
    rcases List.mem_cons.1 hk with rfl | hk
    · exact List.mem_cons_self
    · exact List.mem_cons_of_mem _ (List.mem_of_mem_erase hk)
  have e1 := c1.cell 1
  simp at e1
  obtain ⟨A1, hA1⟩ : ∃ A1, A1 = upd A (H b) (A b) := ⟨_, rfl⟩
  obtain ⟨H1, hH1⟩ : ∃ H1, H1 = upd H (A b) (H b) := ⟨_, rfl⟩
  rw [← hA1, ← hH1] at R1
  obtain ⟨mA, _⟩ := R1.inn hnb b1
  have kr := R1.blk r (by simp)
  have kA1 := R1.blk _ mA
  clear hA1 hH1
  go_wp2_with fail
  refine (in_any w1 b r (A1 r) _ _ _ (kr.cell 0) (b1.cell 0) (b1.cell 1) (kA1.cell 1) (b1.frozen 0) (b1.frozen 1) (kA1.frozen 1) (kr.frozen 0) (fun e => hnb (e ▸ List.mem_cons_self)) (fun e => absurd mA (by rw [← e]; exact hnb))).mono ?_
  rintro e w2 ⟨rfl, hw2⟩
  obtain ⟨R2, F2, c2, b2, m2, mc2, mk2⟩ := in_mid c1 R1 m1 (fun hc => h4 (hsub _ hc)) hnb b1 (fun e => h4 (e ▸ List.mem_cons_of_mem _ hb)) hw2
  clear hw2
  go_wp2_with fail
  go_end0
  have hD : (fun x => if x = b then D b else D x) = D := by funext x; split <;> simp [*]
  rw [hD] at R2
  refine ⟨rfl, ⟨c2, ⟨_, _, R2⟩, m2.perm ?_, ?_⟩, (F1.mono (fun i _ hi => List.mem_cons_of_mem _ (List.mem_cons_of_mem _ hi))).trans (F2.mono (fun i _ hi => ?_))⟩
  · refine (perm_map_erase hb _).trans ?_
    rw [List.map_append]
    exact (List.perm_append_singleton _ _).symm
  · intro hc
    refine h4 ?_
    rcases List.mem_cons.1 hc with rfl | hc
    · exact List.mem_cons_self
    rcases List.mem_append.1 hc with hc | hc
    · exact hsub _ (List.mem_cons_of_mem _ hc)
    · simp at hc; subst hc; exact List.mem_cons_of_mem _ hb
  · refine List.mem_cons_of_mem _ (List.mem_cons_of_mem _ ?_)
    rcases List.mem_cons.1 hi with rfl | hi
    · exact List.mem_cons_of_mem _ hb
    · exact hsub _ hi
end Go.Proofs.Ytjcjebmlibllbaa
