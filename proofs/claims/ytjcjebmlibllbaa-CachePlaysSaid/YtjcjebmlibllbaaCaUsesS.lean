/-
  What CacheUses keeps beside the cache, on lists of keys; that it goes with what the cache keeps. Plain laws; and lists of strings in memory.
-/
import Derived.Test.YtjcjebmlibllbaaCaKeys
namespace Go.Q
open Go Go.RowKit

/-- The keys that were used last, with one more. -/
def usesU (room : Int) (U : List ByteArray) (k : ByteArray) : List ByteArray :=
  if room < (((U.filter fun x => decide (x ≠ k)) ++ [k]).length : Int) then ((U.filter fun x => decide (x ≠ k)) ++ [k]).tail else (U.filter fun x => decide (x ≠ k)) ++ [k]

def keysOf (L : List Slot) : List ByteArray := L.map (·.key)
def us (k : ByteArray) : Slot := ⟨k, 0, 0, 0, 0, 0, 1⟩

theorem keys_del (k : ByteArray) (L : List Slot) : keysOf (del k L) = (keysOf L).filter fun x => decide (x ≠ k) := by
  unfold keysOf del
  induction L with
  | nil => rfl
  | cons s L ih =>
    by_cases h : s.key = k <;> simp [h] at ih ⊢ <;> exact ih

/-- A slot that was kept from 0 to 1. -/
def Span01 (L : List Slot) : Prop := ∀ s ∈ L, s.fr = 0 ∧ s.to = 1

theorem uses_get {room : Int} {L : List Slot} {k : ByteArray} (hS : Span01 L) (hL : (L.length : Int) ≤ room) (hr : 1 ≤ room) :
    (∃ s, getS L k 0 = (some s, del k L ++ [s]) ∧ keysOf (del k L ++ [s]) = usesU room (keysOf L) k ∧ Span01 (del k L ++ [s]) ∧ ((del k L ++ [s]).length : Int) ≤ room) ∨
    (getS L k 0 = (none, L) ∧ ∃ L', putS room L (us k) = (0, L') ∧ keysOf L' = usesU room (keysOf L) k ∧ Span01 L' ∧ (L'.length : Int) ≤ room) := by
  cases hk : lookS k L with
  | some s =>
    have hmem : s ∈ L := List.mem_of_find?_eq_some hk
    have hkey : s.key = k := by
      have := List.find?_some hk
      simpa using this
    have hsp := hS s hmem
    have hlen : (del k L).length < L.length := by
      unfold del
      refine Nat.lt_of_le_of_ne (List.length_filter_le _ _) (fun e => ?_)
      have := List.length_filter_eq_length_iff.1 e s hmem
      simp [hkey] at this
    refine .inl ⟨s, by simp [getS, hk, hsp.1, hsp.2], ?_, ?_, ?_⟩
    · have e1 : keysOf (del k L ++ [s]) = ((keysOf L).filter fun x => decide (x ≠ k)) ++ [k] := by
        rw [← keys_del, ← hkey]; simp [keysOf]
      have e2 : ¬ room < ((((keysOf L).filter fun x => decide (x ≠ k)) ++ [k]).length : Int) := by
        rw [← keys_del]
        simp only [keysOf, List.length_append, List.length_map, List.length_cons, List.length_nil]
        omega
      rw [e1]
      unfold usesU
      rw [if_neg e2]
    · intro x hx
      rcases List.mem_append.1 hx with h | h
      · exact hS x (List.mem_filter.1 h).1
      · simp at h; subst h; exact hsp
    · simp only [List.length_append, List.length_cons, List.length_nil]
      omega
  | none =>
    have hno : ∀ s ∈ L, s.key ≠ k := fun s hs e => by
      have := List.find?_eq_none.1 hk s hs
      simp [e] at this
    have hdel := del_not hno
    refine .inr ⟨by simp [getS, hk], ?_⟩
    have hf : ((keysOf L).filter fun x => decide (x ≠ k)) = keysOf L := by rw [← keys_del, hdel]
    have h1 : ¬ (1 : Int) < 0 := by omega
    have h0 : ¬ room = 0 := by omega
    have hsp : ∀ M, Span01 M → Span01 (M ++ [us k]) := fun M hM x hx => by
      rcases List.mem_append.1 hx with h | h
      · exact hM x h
      · simp at h; subst h; exact ⟨rfl, rfl⟩
    by_cases hfull : (L.length : Int) = room
    · refine ⟨L.tail ++ [us k], ?_, ?_, hsp _ (fun s hs => hS s (List.mem_of_mem_tail hs)), ?_⟩
      · simp only [putS, us, hdel, h1, h0, hfull, if_true, if_false]
      · unfold usesU
        rw [hf]
        have : room < ((keysOf L ++ [k]).length : Int) := by simp [keysOf]; omega
        rw [if_pos this]
        cases L with
        | nil => simp at hfull; omega
        | cons a t => simp [keysOf, us]
      · simp only [List.length_append, List.length_tail, List.length_cons, List.length_nil]
        omega
    · refine ⟨L ++ [us k], ?_, ?_, hsp _ hS, ?_⟩
      · simp only [putS, us, hdel, h1, h0, hfull, if_false]
      · unfold usesU
        rw [hf]
        have : ¬ room < ((keysOf L ++ [k]).length : Int) := by simp [keysOf]; omega
        rw [if_neg this]
        simp [keysOf, us]
      · simp only [List.length_append, List.length_cons, List.length_nil]
        omega

/-- A slice of strings that reads as l. -/
def Strs (w : World) (v : Value) (l : List ByteArray) : Prop :=
  ∃ a cap, v = .slice a l.length cap ∧ l.length ≤ cap ∧ (0 < l.length → ∃ b o, a = some ⟨b, o, none⟩ ∧ ∀ i, i < l.length → w.cell? ⟨b, o + i, none⟩ = some (.string (l.getD i ⟨#[]⟩)))

theorem Strs.fr {S : Nat → Prop} {w w' : World} {v : Value} {l : List ByteArray} (h : Strs w v l) (f : Fr S w w') (hS : ∀ k, v.ownBlock = some k → ¬ S k) : Strs w' v l := by
  obtain ⟨a, cap, rfl, hc, h⟩ := h
  refine ⟨a, cap, rfl, hc, fun h0 => ?_⟩
  obtain ⟨b, o, rfl, hx⟩ := h h0
  exact ⟨b, o, rfl, fun i hi => f.cell (hx i hi) (hS b rfl)⟩

theorem Strs.of_own {w : World} {base n : Nat} {e : TypeId} {v : Value} {l : List ByteArray} (h : w.ownsRow base e 1 v n (l.map Value.string)) : Strs w v l ∧ ∀ k, v.ownBlock = some k → base ≤ k := by
  obtain ⟨h1, h2⟩ := h
  simp at h1
  rcases h2 with ⟨rfl, h2⟩ | ⟨g, cap, cur, rfl, hg, hh, hnc, hcm, hcs, htk⟩
  · have : l = [] := by simpa [h2] using h1
    subst this
    exact ⟨⟨none, 0, rfl, Nat.le_refl _, fun h => absurd h (Nat.lt_irrefl _)⟩, by simp [Value.ownBlock]⟩
  · refine ⟨⟨_, cap, by rw [h1], by omega, fun _ => ⟨g, 0, rfl, fun i hi => ?_⟩⟩, fun k hk => ?_⟩
    · have e1 : cur.toList[i]? = some (Value.string (l.getD i ⟨#[]⟩)) := by
        have e2 : (cur.toList.take (n * 1))[i]? = (l.map Value.string)[i]? := by rw [htk]
        rw [List.getElem?_take, if_pos (by omega)] at e2
        rw [e2, List.getElem?_map, List.getElem?_eq_getElem hi]
        simp [List.getD, hi]
      simp only [World.cell?, hh]
      simpa using e1
    · simp only [Value.ownBlock, Option.some.injEq] at hk
      omega

/-- The slice without its first string. -/
theorem Strs.tail {w : World} {a : Option Addr} {n cap : Nat} {l : List ByteArray} (h : Strs w (.slice a n cap) l) (h2 : 2 ≤ l.length) :
    ∃ b o, a = some ⟨b, o, none⟩ ∧ n = l.length ∧ l.length ≤ cap ∧ Strs w (.slice (some ⟨b, o + 1, none⟩) (n - 1) (cap - 1)) l.tail := by
  obtain ⟨a', cap', he, hc, h⟩ := h
  simp only [Value.slice.injEq] at he
  obtain ⟨rfl, rfl, rfl⟩ := he
  obtain ⟨b, o, rfl, hx⟩ := h (by omega)
  refine ⟨b, o, rfl, rfl, hc, _, cap - 1, by simp, by simp; omega, fun _ => ⟨b, o + 1, rfl, fun i hi => ?_⟩⟩
  simp only [List.length_tail] at hi
  have := hx (i + 1) (by omega)
  rw [show o + 1 + i = o + (i + 1) from by omega, this]
  cases l with
  | nil => simp at h2
  | cons x t => simp [List.getD]
end Go.Q
