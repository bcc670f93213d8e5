/-
  A ring of slots in memory: what it is, and what taking out and putting in do to it.
-/
import Derived.Test.YtjcjebmlibllbaaBase
namespace Go.Q
open Go Go.RowKit

/-- What is kept of a key. -/
structure Slot where
  key : ByteArray
  k : Int
  date : Int
  reason : Int
  cause : Int
  fr : Int
  to : Int

def slotCells' (a h : Value) (d : Slot) : Array Value :=
  #[a, h, .string d.key, .int .i64 d.k, .int .i64 d.date, .int .i64 d.reason, .int .i64 d.cause, .int .i64 d.fr, .int .i64 d.to]
abbrev slotCells (a h : Nat) (d : Slot) : Array Value :=
  #[pt a, pt h, .string d.key, .int .i64 d.k, .int .i64 d.date, .int .i64 d.reason, .int .i64 d.cause, .int .i64 d.fr, .int .i64 d.to]

/-- Each one leads to the next one and back. -/
def Lk (A H : Nat → Nat) : List Nat → Prop
  | x :: y :: t => H x = y ∧ A y = x ∧ Lk A H (y :: t)
  | _ => True

theorem lk_append {A H : Nat → Nat} {x : Nat} : ∀ (p : List Nat) {s : List Nat}, Lk A H (p ++ x :: s) ↔ Lk A H (p ++ [x]) ∧ Lk A H (x :: s)
  | [], s => by simp [Lk]
  | [a], s => by simp [Lk, and_assoc]
  | a :: b :: p, s => by
    have := @lk_append A H x (b :: p) s
    simp only [List.cons_append, Lk] at this ⊢
    rw [this]; simp [and_assoc]

theorem lk_congr {A H A' H' : Nat → Nat} : ∀ {l : List Nat}, (∀ x ∈ l.dropLast, H' x = H x) → (∀ y ∈ l.tail, A' y = A y) → Lk A H l → Lk A' H' l
  | [], _, _, _ => trivial
  | [_], _, _, _ => trivial
  | x :: y :: t, h1, h2, ⟨a, b, c⟩ => by
    refine ⟨?_, ?_, lk_congr (l := y :: t) (fun z hz => h1 z ?_) (fun z hz => h2 z ?_) c⟩
    · rw [h1 x (by simp)]; exact a
    · rw [h2 y (by simp)]; exact b
    · simp at hz ⊢; exact .inr hz
    · simp at hz ⊢; exact .inr hz

/-- The blocks l, in the ring of r: r's behind is the first one, the last one's behind is r. -/
structure Ring (w : World) (T : TypeId) (r : Nat) (bs : List Nat) (D : Nat → Slot) (A H : Nat → Nat) : Prop where
  blk : ∀ b ∈ r :: bs, Blk w b T (slotCells (A b) (H b) (D b))
  lk : Lk A H (r :: (bs ++ [r]))
  nodup : (r :: bs).Nodup

def upd (f : Nat → Nat) (x v : Nat) : Nat → Nat := fun y => if y = x then v else f y
theorem upd_same (f : Nat → Nat) (x v : Nat) : upd f x v x = v := by simp [upd]
theorem upd_ne (f : Nat → Nat) {x y : Nat} (v : Nat) (h : y ≠ x) : upd f x v y = f y := by simp [upd, h]

theorem slot_set0 (a h a' : Nat) (d : Slot) : (slotCells a h d).setIfInBounds 0 (pt a') = slotCells a' h d := rfl
theorem slot_set1 (a h h' : Nat) (d : Slot) : (slotCells a h d).setIfInBounds 1 (pt h') = slotCells a h' d := rfl

theorem blk_set1 {w : World} {T : TypeId} {b x y : Nat} {A H : Nat → Nat} {d : Slot} (h : Blk w b T (slotCells (A b) (H b) d)) : Blk (w.setCell ⟨x, 1, none⟩ (pt y)) b T (slotCells (A b) (upd H x y b) d) := by
  by_cases e : b = x
  · subst e; rw [upd_same, ← slot_set1]; exact h.set 1 _
  · rw [upd_ne _ _ e]; exact h.set_other e _
theorem blk_set0 {w : World} {T : TypeId} {b x y : Nat} {A H : Nat → Nat} {d : Slot} (h : Blk w b T (slotCells (A b) (H b) d)) : Blk (w.setCell ⟨x, 0, none⟩ (pt y)) b T (slotCells (upd A x y b) (H b) d) := by
  by_cases e : b = x
  · subst e; rw [upd_same, ← slot_set0]; exact h.set 0 _
  · rw [upd_ne _ _ e]; exact h.set_other e _

/-- The neighbours of one in the ring are in the ring, and are not it. -/
theorem Ring.near {w : World} {T : TypeId} {r : Nat} {bs : List Nat} {D : Nat → Slot} {A H : Nat → Nat} (h : Ring w T r bs D A H) {b : Nat} (hb : b ∈ bs) :
    A b ∈ r :: bs ∧ H b ∈ r :: bs ∧ b ≠ A b ∧ b ≠ H b := by
  obtain ⟨l1, l2, rfl⟩ := List.append_of_mem hb
  have hl := h.lk
  have hn := h.nodup
  have e1 : r :: (l1 ++ b :: l2 ++ [r]) = (r :: l1) ++ b :: (l2 ++ [r]) := by simp
  rw [e1, lk_append] at hl
  obtain ⟨p, x, hx⟩ : ∃ p x, r :: l1 = p ++ [x] := ⟨(r :: l1).dropLast, (r :: l1).getLast (by simp), (List.dropLast_concat_getLast (by simp)).symm⟩
  obtain ⟨y, s, hy⟩ : ∃ y s, l2 ++ [r] = y :: s := by cases l2 <;> simp
  rw [hx, hy] at hl
  have h1 : A b = x := by
    have := hl.1
    rw [List.append_assoc] at this
    have := (lk_append p (x := x) (s := [b])).1 (by simpa using this)
    exact this.2.2.1
  have h2 : H b = y := hl.2.1
  have mx : x ∈ r :: l1 := by rw [hx]; simp
  have my : y ∈ l2 ++ [r] := by rw [hy]; simp
  simp only [List.nodup_cons, List.mem_append, List.mem_cons, List.nodup_append, not_or] at hn
  rw [h1, h2]
  refine ⟨?_, ?_, ?_, ?_⟩
  · simp at mx ⊢; rcases mx with h | h <;> simp [h]
  · simp at my ⊢; rcases my with h | h <;> simp [h]
  · rintro rfl; simp at mx; rcases mx with h | h
    · exact hn.1.2.1 h.symm
    · exact hn.2.2.2 _ h _ (.inl rfl) rfl
  · rintro rfl; simp at my; rcases my with h | h
    · exact hn.2.2.1.1 h
    · exact hn.1.2.1 h.symm

theorem Ring.out {w : World} {T : TypeId} {r : Nat} {bs : List Nat} {D : Nat → Slot} {A H : Nat → Nat} (h : Ring w T r bs D A H) {b : Nat} (hb : b ∈ bs) :
    Ring ((w.setCell ⟨A b, 1, none⟩ (pt (H b))).setCell ⟨H b, 0, none⟩ (pt (A b))) T r (bs.erase b) D (upd A (H b) (A b)) (upd H (A b) (H b)) := by
  have hsub : ∀ c ∈ r :: bs.erase b, c ∈ r :: bs := fun c hc => by
    simp at hc ⊢; rcases hc with h | h
    · exact .inl h
    · exact .inr (List.mem_of_mem_erase h)
  refine ⟨fun c hc => ?_, ?_, ?_⟩
  · have h0 := h.blk c (hsub c hc)
    exact blk_set0 (blk_set1 h0)
  · obtain ⟨l1, l2, hbs, rfl⟩ : ∃ l1 l2, b ∉ l1 ∧ bs = l1 ++ b :: l2 := by
      obtain ⟨l1, l2, e⟩ := List.append_of_mem hb
      refine ⟨l1, l2, ?_, e⟩
      have := h.nodup
      rw [e] at this
      simp only [List.nodup_cons, List.nodup_append] at this
      intro hm
      exact this.2.2.2 b hm b (by simp) rfl
    have hn := h.nodup
    have hl := h.lk
    rw [List.erase_append_right _ hbs, List.erase_cons_head]
    have e1 : r :: (l1 ++ b :: l2 ++ [r]) = (r :: l1) ++ b :: (l2 ++ [r]) := by simp
    rw [e1, lk_append] at hl
    obtain ⟨p, x, hx⟩ : ∃ p x, r :: l1 = p ++ [x] := ⟨(r :: l1).dropLast, (r :: l1).getLast (by simp), (List.dropLast_concat_getLast (by simp)).symm⟩
    obtain ⟨y, s, hy⟩ : ∃ y s, l2 ++ [r] = y :: s := by cases l2 <;> simp
    have e2 : r :: (l1 ++ l2 ++ [r]) = p ++ x :: y :: s := by
      have : r :: (l1 ++ l2 ++ [r]) = (r :: l1) ++ (l2 ++ [r]) := by simp
      rw [this, hx, hy]; simp
    rw [hx, hy] at hl
    have hl1 := hl.1
    rw [List.append_assoc] at hl1
    have hl1' := (lk_append p (x := x) (s := [b])).1 (by simpa using hl1)
    have h1 : A b = x := hl1'.2.2.1
    have h2 : H b = y := hl.2.1
    rw [e2, lk_append, h1, h2]
    have hnp : (p ++ [x]).Nodup := by
      rw [← hx]; refine hn.sublist ?_; simp
    have hns : (y :: s).Nodup := by
      rw [← hy]
      have : (l2 ++ [r]).Perm (r :: l2) := List.perm_append_singleton r l2
      rw [this.nodup_iff]
      refine hn.sublist ?_; simp
    refine ⟨lk_congr (fun z hz => upd_ne _ _ ?_) (fun z hz => upd_ne _ _ ?_) hl1'.1, upd_same _ _ _, upd_same _ _ _, lk_congr (fun z hz => upd_ne _ _ ?_) (fun z hz => upd_ne _ _ ?_) hl.2.2.2⟩
    · rintro rfl
      simp only [List.dropLast_concat] at hz
      simp only [List.nodup_append] at hnp
      exact hnp.2.2 z hz z (by simp) rfl
    · -- z in the tail of p ++ [x], which is l1; y is r or in l2
      rintro rfl
      rw [← hx] at hz
      simp only [List.tail_cons] at hz
      have my : z ∈ l2 ++ [r] := by rw [hy]; simp
      simp only [List.nodup_cons, List.mem_append, List.mem_cons, List.nodup_append, not_or] at hn
      simp at my
      rcases my with h | h
      · exact hn.2.2.2 z hz z (.inr h) rfl
      · subst h; exact hn.1.1 hz
    · rintro rfl
      have mx : z ∈ r :: l1 := by rw [hx]; simp
      have hz' : z ∈ l2 := by
        have : (y :: s).dropLast = l2 := by rw [← hy]; simp
        rw [this] at hz; exact hz
      simp only [List.nodup_cons, List.mem_append, List.mem_cons, List.nodup_append, not_or] at hn
      simp at mx
      rcases mx with h | h
      · subst h; exact hn.1.2.2 hz'
      · exact hn.2.2.2 z h z (.inr hz') rfl
    · rintro rfl
      simp only [List.tail_cons] at hz
      simp only [List.nodup_cons] at hns
      exact hns.1 hz
  · have := h.nodup
    simp only [List.nodup_cons] at this ⊢
    exact ⟨fun hm => this.1 (List.mem_of_mem_erase hm), this.2.erase b⟩

/-- A new slot at the ring's end. -/
theorem Ring.inn {w : World} {T : TypeId} {r : Nat} {bs : List Nat} {D : Nat → Slot} {A H : Nat → Nat} (h : Ring w T r bs D A H) {n : Nat} {a0 h0 : Value} {d : Slot} (hn : n ∉ r :: bs) (hb : Blk w n T (slotCells' a0 h0 d)) :
    A r ∈ r :: bs ∧
    Ring ((((w.setCell ⟨n, 0, none⟩ (pt (A r))).setCell ⟨n, 1, none⟩ (pt r)).setCell ⟨A r, 1, none⟩ (pt n)).setCell ⟨r, 0, none⟩ (pt n)) T r (bs ++ [n]) (fun b => if b = n then d else D b)
      (upd (upd A n (A r)) r n) (upd (upd H n r) (A r) n) := by
  obtain ⟨p, x, hx⟩ : ∃ p x, r :: bs = p ++ [x] := ⟨(r :: bs).dropLast, (r :: bs).getLast (by simp), (List.dropLast_concat_getLast (by simp)).symm⟩
  have hl := h.lk
  have e1 : r :: (bs ++ [r]) = p ++ x :: [r] := by
    have : r :: (bs ++ [r]) = (r :: bs) ++ [r] := by simp
    rw [this, hx]; simp
  rw [e1, lk_append] at hl
  have hA : A r = x := hl.2.2.1
  have mx : x ∈ r :: bs := by rw [hx]; simp
  refine ⟨hA ▸ mx, fun c hc => ?_, ?_, ?_⟩
  · have hc' : c ∈ r :: bs ∨ c = n := by
      simp at hc ⊢; rcases hc with h | h | h <;> simp [h]
    have base : Blk ((w.setCell ⟨n, 0, none⟩ (pt (A r))).setCell ⟨n, 1, none⟩ (pt r)) c T (slotCells (upd A n (A r) c) (upd H n r c) (if c = n then d else D c)) := by
      rcases hc' with hc' | rfl
      · have hne : c ≠ n := fun e => hn (e ▸ hc')
        rw [if_neg hne, upd_ne _ _ hne, upd_ne _ _ hne]
        exact ((h.blk c hc').set_other hne _).set_other hne _
      · rw [if_pos rfl, upd_same, upd_same]
        exact (hb.set 0 (pt (A r))).set 1 (pt r)
    exact blk_set0 (blk_set1 base)
  · have e2 : r :: (bs ++ [n] ++ [r]) = p ++ x :: n :: [r] := by
      have : r :: (bs ++ [n] ++ [r]) = (r :: bs) ++ [n, r] := by simp
      rw [this, hx]; simp
    have hnd := h.nodup
    have hxn : x ≠ n := fun e => hn (e ▸ mx)
    have hrn : r ≠ n := fun e => hn (by simp [e])
    rw [e2, lk_append, hA]
    refine ⟨lk_congr (fun z hz => ?_) (fun z hz => ?_) hl.1, ?_, ?_, ?_, ?_, trivial⟩
    · simp only [List.dropLast_concat] at hz
      have hz1 : z ∈ r :: bs := by rw [hx]; simp [hz]
      have hzx : z ≠ x := by
        rintro rfl
        rw [hx] at hnd
        simp only [List.nodup_append] at hnd
        exact hnd.2.2 z hz z (by simp) rfl
      rw [upd_ne _ _ hzx, upd_ne _ _ (fun e => hn (by rw [← e]; exact hz1))]
    · rw [← hx] at hz
      simp only [List.tail_cons] at hz
      have hzr : z ≠ r := by rintro rfl; simp only [List.nodup_cons] at hnd; exact hnd.1 hz
      rw [upd_ne _ _ hzr, upd_ne _ _ (fun e => hn (by rw [← e]; exact List.mem_cons_of_mem _ hz))]
    · rw [upd_same]
    · rw [upd_ne _ _ (Ne.symm hrn), upd_same]
    · rw [upd_ne _ _ (Ne.symm hxn), upd_same]
    · rw [upd_same]
  · have := h.nodup
    simp only [List.nodup_cons, List.mem_append, List.nodup_append, List.mem_cons, not_or] at this hn ⊢
    refine ⟨⟨this.1, fun e => hn.1 e.symm, by simp⟩, this.2, by simp, ?_⟩
    rintro a ha b hb rfl
    simp at hb
    exact hn.2 (hb ▸ ha)

theorem Ring.fr {w w' : World} {T : TypeId} {r : Nat} {bs : List Nat} {D : Nat → Slot} {A H : Nat → Nat} {S : Nat → Prop} (h : Ring w T r bs D A H) (f : Fr S w w') (hS : ∀ b ∈ r :: bs, ¬ S b) : Ring w' T r bs D A H :=
  ⟨fun b hb => (h.blk b hb).fr f (hS b hb), h.lk, h.nodup⟩
theorem Ring.of_heap {w w' : World} {T : TypeId} {r : Nat} {bs : List Nat} {D : Nat → Slot} {A H : Nat → Nat} (h : Ring w T r bs D A H) (e : w'.heap = w.heap) : Ring w' T r bs D A H :=
  ⟨fun b hb => by have := h.blk b hb; unfold Blk at *; rw [e]; exact this, h.lk, h.nodup⟩
end Go.Q
