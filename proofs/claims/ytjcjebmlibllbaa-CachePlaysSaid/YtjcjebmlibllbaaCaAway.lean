/-
  A cache in memory, as its callers see it: what it keeps, and that its blocks are none of a set that is kept away from it.
-/
import Derived.Test.YtjcjebmlibllbaaCaGet
namespace Go.Proofs.Ytjcjebmlibllbaa
open Go Go.RowKit Go.Q

/-- A cache at c that keeps L, all of whose blocks are outside of K. -/
def Away (w : World) (c : Nat) (K : Nat → Prop) (room : Int) (L : List Slot) : Prop :=
  ∃ r m bs D, CacheAt w c r m room bs D ∧ (∀ k ∈ c :: m :: r :: bs, ¬ K k) ∧ bs.map D = L

theorem Away.step {w w' : World} {c : Nat} {K K' S : Nat → Prop} {room : Int} {L : List Slot} (h : Away w c K room L) (f : Fr S w w') (hS : ∀ k, k < w.heap.size → S k → K k) (hK : ∀ k, K' k → K k ∨ w.heap.size ≤ k) : Away w' c K' room L := by
  obtain ⟨r, m, bs, D, hC, hk, hL⟩ := h
  refine ⟨r, m, bs, D, ?_, fun k hkm hk' => ?_, hL⟩
  · obtain ⟨h1, ⟨A, H, h2⟩, h3, h4⟩ := hC
    have lt : ∀ k ∈ c :: m :: r :: bs, k < w.heap.size := CacheAt.lt ⟨h1, ⟨A, H, h2⟩, h3, h4⟩
    have no : ∀ k ∈ c :: m :: r :: bs, ¬ S k := fun k hm hs => hk k hm (hS k (lt k hm) hs)
    exact CacheAt.fr ⟨h1, ⟨A, H, h2⟩, h3, h4⟩ f no
  · rcases hK k hk' with h | h
    · exact hk k hkm h
    · exact absurd (hC.lt k hkm) (by omega)

theorem Away.lt {w : World} {c : Nat} {K : Nat → Prop} {room : Int} {L : List Slot} (h : Away w c K room L) : c < w.heap.size := by
  obtain ⟨r, m, bs, D, hC, _⟩ := h
  exact hC.lt c (by simp)

theorem put_away {w : World} {c : Nat} {K : Nat → Prop} {room : Int} {L : List Slot} (h : Away w c K room L) (hK : ∀ k, K k → k < w.heap.size) (s : Slot) :
    Calls Try.prog 9 #[pt c, .string s.key, .agg #[.int .i64 s.k, .int .i64 s.date, .int .i64 s.reason, .int .i64 s.cause], .agg #[.int .i64 s.fr, .int .i64 s.to]] w fun e w' =>
      e = .returned (.int .i64 (putS room L s).1) ∧ Away w' c K room (putS room L s).2 ∧ Fr (fun k => ¬ K k) w w' := by
  obtain ⟨r, m, bs, D, hC, hk, rfl⟩ := h
  refine (put_any w c r m room bs D hC s).mono ?_
  rintro e w' ⟨bs', D', he, hC', hL', hF, hb⟩
  refine ⟨he, ⟨r, m, bs', D', hC', fun k hkm hK' => ?_, hL'⟩, hF.mono (fun i _ hi => hk i hi)⟩
  simp only [List.mem_cons] at hkm
  rcases hkm with rfl | rfl | rfl | hkm
  · exact hk _ (by simp) hK'
  · exact hk _ (by simp) hK'
  · exact hk _ (by simp) hK'
  · rcases hb k hkm with h | h
    · exact hk _ (by simp [h]) hK'
    · exact absurd (hK k hK') (by omega)

theorem get_away {w : World} {c : Nat} {K : Nat → Prop} {room : Int} {L : List Slot} (h : Away w c K room L) (key : ByteArray) (now : Int) :
    Calls Try.prog 11 #[pt c, .string key, .int .i64 now] w fun e w' =>
      e = .returned (told (getS L key now).1) ∧ Away w' c K room (getS L key now).2 ∧ Fr (fun k => ¬ K k) w w' := by
  obtain ⟨r, m, bs, D, hC, hk, rfl⟩ := h
  refine (get_any w c r m room bs D hC key now).mono ?_
  rintro e w' ⟨bs', he, hC', hL', hF, hb⟩
  refine ⟨he, ⟨r, m, bs', D, hC', fun k hkm hK' => ?_, hL'⟩, hF.mono (fun i _ hi => hk i hi)⟩
  simp only [List.mem_cons] at hkm
  rcases hkm with rfl | rfl | rfl | hkm
  · exact hk _ (by simp) hK'
  · exact hk _ (by simp) hK'
  · exact hk _ (by simp) hK'
  · exact hk _ (by simp [hb k hkm]) hK'

set_option maxHeartbeats 400000 in
theorem len_any {w : World} {c : Nat} {K : Nat → Prop} {room : Int} {L : List Slot} (h : Away w c K room L) :
    Calls Try.prog 13 #[pt c] w fun e w' => e = .returned (.int .i64 L.length) ∧ w = w' := by
  obtain ⟨r, m, bs, D, hC, hk, rfl⟩ := h
  have e2 := hC.cc.cell 2
  simp at e2
  have hc : ∀ T, (Builtin.len_ #[63] T #[.map (some m)]).run Try.prog w = .ok (.int .i64 (bs.map D).length) w := fun T => by
    have h := MapIs.count (P := Try.prog) (K := 9) (E := 61) (t := 63) (T := T) hC.map Try.underlying63
    simpa using h
  clear hC
  go_enter Try.func13, Try.ntmps13
  go_wp2
  go_ret
  exact ⟨by simp, rfl⟩

/-- A new cache is empty. -/
theorem new_away (room : Int) (w : World) (h0 : 0 ≤ room) (h1 : room ≤ 10000) :
    Calls Try.prog 8 #[.int .i64 room] w fun e w' => e = .returned (.tuple #[pt (w.heap.size + 2), .int .i64 0]) ∧ Away w' (w.heap.size + 2) (fun k => k < w.heap.size) room [] ∧ Fr (fun _ => False) w w' ∧ w'.heap.size = w.heap.size + 3 := by
  refine (new_any room w h0 h1).mono ?_
  rintro e w' ⟨he, hw⟩
  refine ⟨he, ⟨w.heap.size, w.heap.size + 1, [], fun _ => ⟨⟨#[]⟩, 0, 0, 0, 0, 0, 0⟩, ⟨?_, ⟨fun _ => w.heap.size, fun _ => w.heap.size, ?_, ?_, ?_⟩, ⟨#[], 0, ?_, ?_, ?_⟩, ?_⟩, ?_, rfl⟩, ?_, ?_⟩
  · rw [hw]
    have := Blk.new ((w.alloc (.cells (zslot w.heap.size w.heap.size) 72)).alloc (.map #[] 0)) 65 #[.int .i64 room, pt w.heap.size, .map (some (w.heap.size + 1))]
    simpa using this
  · intro b hb
    simp at hb
    subst hb
    rw [hw]
    exact ((Blk.new w 72 (zslot w.heap.size w.heap.size)).alloc _).alloc _
  · simp [Lk]
  · simp
  · rw [hw]
    rw [Below.heap_alloc _ _ _ (by simp)]
    have := (MapKept.heap_alloc (w.alloc (.cells (zslot w.heap.size w.heap.size) 72)) (.map #[] 0)).1
    simpa using this
  · simp
  · simp
  · simp
  · intro k hk
    simp only [List.mem_cons, List.not_mem_nil, or_false] at hk
    omega
  · rw [hw]; exact (((Fr.refl w).alloc _).alloc _).alloc _
  · rw [hw]; simp
end Go.Proofs.Ytjcjebmlibllbaa
