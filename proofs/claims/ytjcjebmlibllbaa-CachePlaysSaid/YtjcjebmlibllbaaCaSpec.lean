/-
  What a cache is to do, on lists of slots from the one that wasn't used the longest on: plain functions and laws.
-/
import Derived.Test.YtjcjebmlibllbaaCaRing
namespace Go.Q
open Go

/-- Without a key. -/
def del (k : ByteArray) (L : List Slot) : List Slot := L.filter fun s => decide (s.key ≠ k)

/-- Put: the error's number, and what is kept. -/
def putS (room : Int) (L : List Slot) (s : Slot) : Int × List Slot :=
  if s.to < s.fr then (16, del s.key L)
  else if room = 0 then (2, del s.key L)
  else if ((del s.key L).length : Int) = room then (0, (del s.key L).tail ++ [s])
  else (0, del s.key L ++ [s])

/-- The slot of a key. -/
def lookS (k : ByteArray) (L : List Slot) : Option Slot := L.find? fun s => decide (s.key = k)

/-- Get: what is told, and what is kept. -/
def getS (L : List Slot) (k : ByteArray) (now : Int) : Option Slot × List Slot :=
  match lookS k L with
  | none => (none, L)
  | some s => if s.fr ≤ now ∧ now ≤ s.to then (some s, del k L ++ [s]) else (none, del k L)

theorem del_not {k : ByteArray} {L : List Slot} (h : ∀ s ∈ L, s.key ≠ k) : del k L = L := by
  unfold del
  exact List.filter_eq_self.2 (fun s hs => by simpa using h s hs)

theorem lookS_none {k : ByteArray} {L : List Slot} (h : ∀ s ∈ L, s.key ≠ k) : lookS k L = none := by
  unfold lookS
  exact List.find?_eq_none.2 (fun s hs => by simpa using h s hs)

theorem erase_map {D : Nat → Slot} {b : Nat} : ∀ {bs : List Nat}, (bs.map fun b => (D b).key).Nodup → b ∈ bs → (bs.erase b).map D = del (D b).key (bs.map D)
  | [], _, h => by cases h
  | a :: bs, hn, h => by
    simp only [List.map_cons, List.nodup_cons] at hn
    by_cases e : a = b
    · subst e
      rw [List.erase_cons_head]
      unfold del
      simp only [List.map_cons, ne_eq, List.filter_cons, not_true_eq_false, decide_false, Bool.false_eq_true, if_false]
      refine (List.filter_eq_self.2 ?_).symm
      intro s hs
      obtain ⟨x, hx, rfl⟩ := List.mem_map.1 hs
      simp only [decide_not, Bool.not_eq_eq_eq_not, Bool.not_true, decide_eq_false_iff_not]
      intro e2
      exact hn.1 (List.mem_map.2 ⟨x, hx, e2⟩)
    · have hb : b ∈ bs := by rcases List.mem_cons.1 h with h | h; exact (e h.symm).elim; exact h
      rw [List.erase_cons_tail (by simpa using e)]
      have ih := erase_map hn.2 hb
      have hk : (D a).key ≠ (D b).key := fun e2 => hn.1 (List.mem_map.2 ⟨b, hb, e2.symm⟩)
      unfold del at ih ⊢
      simp only [List.map_cons, List.filter_cons, ne_eq, hk, not_false_eq_true, decide_true, if_true, ih]

theorem lookS_map {D : Nat → Slot} {b : Nat} : ∀ {bs : List Nat}, (bs.map fun b => (D b).key).Nodup → b ∈ bs → lookS (D b).key (bs.map D) = some (D b)
  | [], _, h => by cases h
  | a :: bs, hn, h => by
    simp only [List.map_cons, List.nodup_cons] at hn
    by_cases e : a = b
    · subst e; simp [lookS]
    · have hb : b ∈ bs := by rcases List.mem_cons.1 h with h | h; exact (e h.symm).elim; exact h
      have hk : (D a).key ≠ (D b).key := fun e2 => hn.1 (List.mem_map.2 ⟨b, hb, e2.symm⟩)
      have ih := lookS_map hn.2 hb
      unfold lookS at ih ⊢
      simp [hk, ih]

theorem del_not_mem (k : ByteArray) (L : List Slot) : ∀ s ∈ del k L, s.key ≠ k := fun s hs => by
  have := (List.mem_filter.1 hs).2
  simpa using this

theorem del_len (k : ByteArray) (L : List Slot) : (del k L).length ≤ L.length := List.length_filter_le _ _

/-- What stands at the end of what Put keeps is told by Get, and stays there. -/
theorem get_last {X : List Slot} {s : Slot} {now : Int} (hX : ∀ x ∈ X, x.key ≠ s.key) (h1 : s.fr ≤ now) (h2 : now ≤ s.to) : getS (X ++ [s]) s.key now = (some s, X ++ [s]) := by
  have e1 : lookS s.key (X ++ [s]) = some s := by
    unfold lookS
    rw [List.find?_append]
    have := lookS_none (k := s.key) (L := X) hX
    unfold lookS at this
    rw [this]
    simp
  have e2 : del s.key (X ++ [s]) = X := by
    have := del_not (k := s.key) (L := X) hX
    unfold del at this ⊢
    rw [List.filter_append, this]
    simp
  simp [getS, e1, e2, h1, h2]

/-- Put, and Get of what was put: what is told, and how many are kept. -/
theorem put_get (room : Int) (L : List Slot) (s : Slot) (hr : 0 ≤ room) (hL : (L.length : Int) ≤ room) :
    (s.fr ≤ s.to ∧ 0 < room ∧ (putS room L s).1 = 0 ∧ getS (putS room L s).2 s.key s.fr = (some s, (putS room L s).2) ∧ ((putS room L s).2.length : Int) ≤ room) ∨
    (¬ (s.fr ≤ s.to ∧ 0 < room) ∧ (putS room L s).1 ≠ 0 ∧ getS (putS room L s).2 s.key s.fr = (none, (putS room L s).2) ∧ ((putS room L s).2.length : Int) ≤ room) := by
  have hd := del_len s.key L
  have hno : getS (del s.key L) s.key s.fr = (none, del s.key L) := by
    have := lookS_none (k := s.key) (L := del s.key L) (del_not_mem s.key L)
    simp [getS, this]
  by_cases he : s.to < s.fr
  · have e : putS room L s = (16, del s.key L) := by simp [putS, he]
    rw [e]
    exact .inr ⟨by omega, by simp, hno, by simp only; omega⟩
  by_cases h0 : room = 0
  · have e : putS room L s = (2, del s.key L) := by simp [putS, he, h0]
    rw [e]
    exact .inr ⟨by omega, by simp, hno, by simp only; omega⟩
  by_cases hf : ((del s.key L).length : Int) = room
  · have e : putS room L s = (0, (del s.key L).tail ++ [s]) := by simp [putS, he, h0, hf]
    rw [e]
    refine .inl ⟨by omega, by omega, rfl, get_last (fun x hx => del_not_mem s.key L x (List.mem_of_mem_tail hx)) (by omega) (by omega), ?_⟩
    simp only [List.length_append, List.length_tail, List.length_cons, List.length_nil]
    omega
  · have e : putS room L s = (0, del s.key L ++ [s]) := by simp [putS, he, h0, hf]
    rw [e]
    refine .inl ⟨by omega, by omega, rfl, get_last (fun x hx => del_not_mem s.key L x hx) (by omega) (by omega), ?_⟩
    simp only [List.length_append, List.length_cons, List.length_nil]
    omega
end Go.Q
