/-
  The walks of the cache's ring: out, in, ring.
-/
import Derived.Test.YtjcjebmlibllbaaBase
namespace Go.Proofs.Ytjcjebmlibllbaa
open Go Go.RowKit Go.Q

set_option maxHeartbeats 400000 in
theorem out_any (w : World) (b x y : Nat) (o1 o2 : Value) (hx : w.cell? ⟨b, 0, none⟩ = some (pt x)) (hy : w.cell? ⟨b, 1, none⟩ = some (pt y))
    (hx1 : w.cell? ⟨x, 1, none⟩ = some o1) (hy0 : w.cell? ⟨y, 0, none⟩ = some o2) (fx : w.frozen? ⟨x, 1, none⟩ = false) (fy : w.frozen? ⟨y, 0, none⟩ = false) (hbx : b ≠ x) (hby : b ≠ y) :
    Calls Try.prog 38 #[pt b] w fun e w' => e = .returned (.tuple #[]) ∧ ∃ n, w' = ((w.setCell ⟨x, 1, none⟩ (pt y)).setCell ⟨y, 0, none⟩ (pt x)).drewN n := by
  have hbx' : ¬ x = b := fun h => hbx h.symm
  have hby' : ¬ y = b := fun h => hby h.symm
  go_enter Try.func38, Try.ntmps38
  go_wp2
  go_region
  go_wp2
  have hy0' : (w.setCell ⟨x, 1, none⟩ (pt y)).cell? ⟨y, 0, none⟩ = some o2 := by rw [World.cell?_setCell_other _ _ _ _ (by simp)]; exact hy0
  go_region
  go_wp2
  go_end0
  exact ⟨rfl, 2, rfl⟩

set_option maxHeartbeats 400000 in
theorem in_any (w : World) (n r x : Nat) (o1 o2 o3 : Value) (hx : w.cell? ⟨r, 0, none⟩ = some (pt x)) (hn0 : w.cell? ⟨n, 0, none⟩ = some o1) (hn1 : w.cell? ⟨n, 1, none⟩ = some o2)
    (hx1 : w.cell? ⟨x, 1, none⟩ = some o3) (fn0 : w.frozen? ⟨n, 0, none⟩ = false) (fn1 : w.frozen? ⟨n, 1, none⟩ = false) (fx : w.frozen? ⟨x, 1, none⟩ = false) (fr : w.frozen? ⟨r, 0, none⟩ = false) (hnr : n ≠ r) (hnx : n ≠ x) :
    Calls Try.prog 26 #[pt n, pt r] w fun e w' => e = .returned (.tuple #[]) ∧
      w' = ((((w.setCell ⟨n, 0, none⟩ (pt x)).setCell ⟨n, 1, none⟩ (pt r)).setCell ⟨x, 1, none⟩ (pt n)).setCell ⟨r, 0, none⟩ (pt n)) := by
  have h1 : ¬ r = n := fun h => hnr h.symm
  have h2 : ¬ x = n := fun h => hnx h.symm
  go_enter Try.func26, Try.ntmps26
  go_wp2
  go_end0
  exact ⟨rfl, rfl⟩

def zslot (a h : Nat) : Array Value := #[pt a, pt h, .string ⟨#[]⟩, .int .i64 0, .int .i64 0, .int .i64 0, .int .i64 0, .int .i64 0, .int .i64 0]

set_option maxHeartbeats 400000 in
theorem ring_any (w : World) :
    Calls Try.prog 23 #[] w fun e w' => e = .returned (pt w.heap.size) ∧ w' = w.alloc (.cells (zslot w.heap.size w.heap.size) 72) := by
  go_enter Try.func23, Try.ntmps23
  go_wp2
  go_ret
  exact ⟨rfl, rfl⟩

set_option maxHeartbeats 400000 in
theorem new_any (room : Int) (w : World) (h0 : 0 ≤ room) (h1 : room ≤ 10000) :
    Calls Try.prog 8 #[.int .i64 room] w fun e w' => e = .returned (.tuple #[pt (w.heap.size + 2), .int .i64 0]) ∧
      w' = ((w.alloc (.cells (zslot w.heap.size w.heap.size) 72)).alloc (.map #[] 0)).alloc (.cells #[.int .i64 room, pt w.heap.size, .map (some (w.heap.size + 1))] 65) := by
  have hm := @run_makeMap Try.prog
  have h0' : ¬ room < 0 := by omega
  have h1' : ¬ 10000 < room := by omega
  go_enter Try.func8, Try.ntmps8
  go_wp2_with (go_at_call 23; refine (ring_any _).mono ?_; rintro e w' ⟨rfl, rfl⟩)
  go_ret2
  exact ⟨rfl, rfl⟩

set_option maxHeartbeats 400000 in
theorem empty_any (f t : Int) (w : World) :
    Calls Try.prog 25 #[.agg #[.int .i64 f, .int .i64 t]] w fun e w' => e = .returned (.bool (decide (t < f))) ∧ w' = w.alloc (.cells #[.int .i64 f, .int .i64 t] 39) := by
  go_enter Try.func25, Try.ntmps25
  go_wp2
  go_ret
  exact ⟨rfl, rfl⟩

set_option maxHeartbeats 400000 in
theorem in_span_any (f t n : Int) (w : World) :
    Calls Try.prog 27 #[.agg #[.int .i64 f, .int .i64 t], .int .i64 n] w fun e w' => e = .returned (.bool (decide (f ≤ n ∧ n ≤ t))) ∧ w' = w.alloc (.cells #[.int .i64 f, .int .i64 t] 39) := by
  by_cases h : f ≤ n
  · go_enter Try.func27, Try.ntmps27
    go_wp2
    go_ret
    exact ⟨by simp [h], rfl⟩
  · have hd : decide (f ≤ n) = false := by simpa using h
    go_enter Try.func27, Try.ntmps27
    go_wp2
    go_ret
    exact ⟨by simp, rfl⟩

set_option maxHeartbeats 400000 in
theorem status_any (a b c d : Int) (w : World) :
    Calls Try.prog 10 #[.agg #[.int .i64 a, .int .i64 b, .int .i64 c, .int .i64 d]] w fun e w' => e = .returned (.agg #[.int .i64 a, .int .i64 b, .int .i64 c, .int .i64 d]) ∧
      w' = (w.alloc (.cells #[.int .i64 a, .int .i64 b, .int .i64 c, .int .i64 d] 29)).alloc (.cells #[.int .i64 a, .int .i64 b, .int .i64 c, .int .i64 d] 37) := by
  go_enter Try.func10, Try.ntmps10
  go_wp2
  exact bodyPost_ret (v := .agg #[.int .i64 a, .int .i64 b, .int .i64 c, .int .i64 d]) (by simp [results, Try.results10, go_sem]) rfl ⟨rfl, rfl⟩
end Go.Proofs.Ytjcjebmlibllbaa
