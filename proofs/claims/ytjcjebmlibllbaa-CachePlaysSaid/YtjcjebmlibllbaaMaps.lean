/-
  Maps keyed by strings, their elements whatever they are: what look-up, store, delete and clear do, said of the list of their entries up to its order.
-/
import Derived.Test.YtjcjebmlibllbaaBase
import Derived.MapKept
namespace Go.Q
open Go Go.RowKit

/-- Block m is a map whose entries are the rows l, in some order. -/
def MapIs (w : World) (m : Nat) (l : List (ByteArray × Value)) : Prop :=
  ∃ (es : Array MapEntry) (clock : Nat), w.heap[m]? = some (.map es clock) ∧ (es.toList.map fun e => (e.key, e.val)).Perm (l.map fun p => (.string p.1, p.2)) ∧ (l.map (·.1)).Nodup

theorem MapIs.lt {w : World} {m : Nat} {l : List (ByteArray × Value)} (h : MapIs w m l) : m < w.heap.size := by
  obtain ⟨es, c, hb, _⟩ := h
  exact (Array.getElem?_eq_some_iff.1 hb).1
theorem MapIs.fr {S : Nat → Prop} {w w' : World} {m : Nat} {l : List (ByteArray × Value)} (h : MapIs w m l) (f : Fr S w w') (hm : ¬ S m) : MapIs w' m l := by
  have hlt := h.lt
  obtain ⟨es, c, hb, hp⟩ := h
  exact ⟨es, c, (f.block m hlt hm).trans hb, hp⟩
theorem MapIs.perm {w : World} {m : Nat} {l l' : List (ByteArray × Value)} (h : MapIs w m l) (p : l.Perm l') : MapIs w m l' := by
  obtain ⟨es, c, hb, hp, hn⟩ := h
  exact ⟨es, c, hb, hp.trans (p.map _), (p.map _).nodup_iff.1 hn⟩

theorem ba_beq (a b : ByteArray) : (a == b) = decide (a = b) := by
  show (a.data == b.data) = _
  rw [Bool.eq_iff_iff]
  simp [ByteArray.ext_iff]

theorem perm_eraseIdx {α : Type} {e : α} : ∀ {l : List α} {j : Nat}, l[j]? = some e → l.Perm (e :: l.eraseIdx j)
  | [], _, h => by simp at h
  | a :: l, 0, h => by simp at h; subst h; simp
  | a :: l, j + 1, h => by
    have := perm_eraseIdx (l := l) (j := j) (by simpa using h)
    simp only [List.eraseIdx_cons_succ]
    exact (this.cons a).trans (List.Perm.swap e a _)

theorem nodup_fst {k : ByteArray} {v v' : Value} : ∀ {l : List (ByteArray × Value)}, (l.map (·.1)).Nodup → (k, v) ∈ l → (k, v') ∈ l → v = v'
  | [], _, h, _ => by cases h
  | (k0, v0) :: l, hn, h1, h2 => by
    simp only [List.map_cons, List.nodup_cons] at hn
    have no : ∀ u, (k, u) ∈ l → k ≠ k0 := fun u hu e => hn.1 (List.mem_map.2 ⟨_, hu, e⟩)
    rcases List.mem_cons.1 h1 with p1 | p1 <;> rcases List.mem_cons.1 h2 with p2 | p2
    · injection p1 with a1 a2; injection p2 with b1 b2; rw [a2, b2]
    · injection p1 with a1 a2; exact (no _ p2 a1).elim
    · injection p2 with a1 a2; exact (no _ p1 a1).elim
    · exact nodup_fst hn.2 p1 p2

theorem findNow_string (k : ByteArray) : ∀ (es : List MapEntry) (i : Nat), (∀ e ∈ es, ∃ s, e.key = .string s) →
    (∃ j e, es[j]? = some e ∧ e.key = .string k ∧ Instr.findNow .string (.string k) es i = some (some (i + j, e.val))) ∨
    ((∀ e ∈ es, e.key ≠ .string k) ∧ Instr.findNow .string (.string k) es i = some none)
  | [], i, _ => .inr ⟨by simp, rfl⟩
  | e :: es, i, h => by
    obtain ⟨s, hs⟩ := h e (by simp)
    by_cases hk : k = s
    · subst hk
      exact .inl ⟨0, e, rfl, hs, by simp [Instr.findNow, hs, Instr.sameNow, ba_beq]⟩
    · have hf : (k == s) = false := by rw [ba_beq]; simpa using hk
      rcases findNow_string k es (i + 1) (fun x hx => h x (by simp [hx])) with ⟨j, x, h1, h2, h3⟩ | ⟨h1, h2⟩
      · refine .inl ⟨j + 1, x, by simpa using h1, h2, ?_⟩
        simp only [Instr.findNow, hs, Instr.sameNow, hf, h3]
        congr 3; omega
      · refine .inr ⟨fun x hx => ?_, by simp only [Instr.findNow, hs, Instr.sameNow, hf, h2]⟩
        rcases List.mem_cons.1 hx with rfl | hx
        · rw [hs]; intro e; injection e with e; exact hk e.symm
        · exact h1 x hx

section
variable {P : Program} {K E t : TypeId} {w : World} {m : Nat} {l : List (ByteArray × Value)}

theorem run_checkKey_string (hK : P.underlying K = some .string) (em : Bool) (k : ByteArray) (w : World) : (Instr.checkKey em 10000 K (.string k)).run P w = .ok () w := by
  rw [show (10000 : Nat) = 9999 + 1 from rfl]
  unfold Instr.checkKey
  simp [run_underlying hK]

theorem run_findKey_string (hK : P.underlying K = some .string) {es : Array MapEntry} {r : Option (Nat × Value)} (k : ByteArray) (hf : Instr.findNow .string (.string k) es.toList 0 = some r) (w : World) :
    (Instr.findKey K (.string k) es.toList).run P w = .ok r w := by
  unfold Instr.findKey
  simp [run_underlying hK, hf]

theorem keys_string {es : List MapEntry} {l : List (ByteArray × Value)} (hp : (es.map fun e => (e.key, e.val)).Perm (l.map fun p => (.string p.1, p.2))) : ∀ e ∈ es, ∃ s, e.key = .string s ∧ (s, e.val) ∈ l := fun e he => by
  have : (e.key, e.val) ∈ l.map fun p => (Value.string p.1, p.2) := hp.mem_iff.1 (List.mem_map.2 ⟨e, he, rfl⟩)
  obtain ⟨p, hp1, hp2⟩ := List.mem_map.1 this
  simp only [Prod.mk.injEq] at hp2
  exact ⟨p.1, hp2.1.symm, by rw [← hp2.2]; exact hp1⟩

/-- What is found of a key that is there. -/
theorem MapIs.found (h : MapIs w m l) (hK : P.underlying K = some .string) (ht : P.underlying t = some (.map K E)) {k : ByteArray} {v : Value} (hv : (k, v) ∈ l) (ok : Bool) :
    (Instr.lookup t (.map (some m)) (.string k) ok).run P w = .ok (if ok then .tuple #[v, .bool true] else v) w := by
  obtain ⟨es, c, hb, hp, hn⟩ := h
  have hks := keys_string hp
  rcases findNow_string k es.toList 0 (fun e he => let ⟨s, hs, _⟩ := hks e he; ⟨s, hs⟩) with ⟨j, e, h1, h2, h3⟩ | ⟨h1, h2⟩
  · have hm := List.mem_of_getElem? h1
    obtain ⟨s, hs, hsl⟩ := hks e hm
    rw [h2] at hs
    injection hs with hs
    subst hs
    have hev : e.val = v := nodup_fst hn hsl hv
    have hr := run_findKey_string hK k h3 w
    unfold Instr.lookup
    simp [run_underlying ht, MapKept.run_getObj_map hb, run_checkKey_string hK, hr, hev]
  · exfalso
    have : (Value.string k, v) ∈ es.toList.map fun e => (e.key, e.val) := hp.mem_iff.2 (List.mem_map.2 ⟨(k, v), hv, rfl⟩)
    obtain ⟨e, he, hee⟩ := List.mem_map.1 this
    simp only [Prod.mk.injEq] at hee
    exact h1 e he hee.1

/-- What is found of a key that isn't there. -/
theorem MapIs.missing (h : MapIs w m l) (hK : P.underlying K = some .string) (ht : P.underlying t = some (.map K E)) {z : Value} (hz : ∀ w, (zeroValue E).run P w = .ok z w) {k : ByteArray} (hk : k ∉ l.map (·.1)) (ok : Bool) :
    (Instr.lookup t (.map (some m)) (.string k) ok).run P w = .ok (if ok then .tuple #[z, .bool false] else z) w := by
  obtain ⟨es, c, hb, hp, hn⟩ := h
  have hks := keys_string hp
  rcases findNow_string k es.toList 0 (fun e he => let ⟨s, hs, _⟩ := hks e he; ⟨s, hs⟩) with ⟨j, e, h1, h2, h3⟩ | ⟨h1, h2⟩
  · have hm := List.mem_of_getElem? h1
    obtain ⟨s, hs, hsl⟩ := hks e hm
    rw [h2] at hs
    injection hs with hs
    subst hs
    exact absurd (List.mem_map.2 ⟨_, hsl, rfl⟩) hk
  · have hr := run_findKey_string hK k h2 w
    unfold Instr.lookup
    simp [run_underlying ht, MapKept.run_getObj_map hb, run_checkKey_string hK, hr, hz]

/-- A new key. -/
theorem MapIs.put_new (h : MapIs w m l) (hK : P.underlying K = some .string) (ht : P.underlying t = some (.map K E)) {k : ByteArray} (hk : k ∉ l.map (·.1)) (v : Value) :
    ∃ o, (Instr.mapUpdate t (.map (some m)) (.string k) v).run P w = .ok () { w with heap := w.heap.setIfInBounds m o } ∧ MapIs { w with heap := w.heap.setIfInBounds m o } m (l ++ [(k, v)]) := by
  have hlt := h.lt
  obtain ⟨es, c, hb, hp, hn⟩ := h
  have hks := keys_string hp
  rcases findNow_string k es.toList 0 (fun e he => let ⟨s, hs, _⟩ := hks e he; ⟨s, hs⟩) with ⟨j, e, h1, h2, h3⟩ | ⟨h1, h2⟩
  · have hm := List.mem_of_getElem? h1
    obtain ⟨s, hs, hsl⟩ := hks e hm
    rw [h2] at hs
    injection hs with hs
    subst hs
    exact absurd (List.mem_map.2 ⟨_, hsl, rfl⟩) hk
  · have hr := run_findKey_string hK k h2 w
    refine ⟨.map (es.push { key := .string k, val := v, born := c }) (c + 1), ?_, es.push { key := .string k, val := v, born := c }, c + 1, by simp [hlt], ?_, ?_⟩
    · unfold Instr.mapUpdate
      simp [run_underlying ht, MapKept.run_getObj_map hb, run_checkKey_string hK, hr, MapKept.run_setObj_map _ hb]
    · simpa using hp.append (List.Perm.refl [(Value.string k, v)])
    · rw [List.map_append, List.nodup_append]
      refine ⟨hn, by simp, ?_⟩
      rintro a ha b hb' rfl
      simp at hb'
      subst hb'
      exact hk ha

/-- A key goes. -/
theorem MapIs.drop (h : MapIs w m l) (hK : P.underlying K = some .string) (ht : P.underlying t = some (.map K E)) {k : ByteArray} {v : Value} (hv : (k, v) ∈ l) {E' : TypeId} {T : TypeId} :
    ∃ o, (Builtin.delete_ #[t, E'] T #[.map (some m), .string k]).run P w = .ok (.tuple #[]) { w with heap := w.heap.setIfInBounds m o } ∧
      ∀ l', l.Perm ((k, v) :: l') → MapIs { w with heap := w.heap.setIfInBounds m o } m l' := by
  have hlt := h.lt
  obtain ⟨es, c, hb, hp, hn⟩ := h
  have hks := keys_string hp
  rcases findNow_string k es.toList 0 (fun e he => let ⟨s, hs, _⟩ := hks e he; ⟨s, hs⟩) with ⟨j, e, h1, h2, h3⟩ | ⟨h1, h2⟩
  · have hm := List.mem_of_getElem? h1
    obtain ⟨s, hs, hsl⟩ := hks e hm
    rw [h2] at hs
    injection hs with hs
    subst hs
    rw [Nat.zero_add] at h3
    have hr := run_findKey_string hK k h3 w
    refine ⟨.map (es.eraseIdxIfInBounds j) c, ?_, fun l' hl' => ⟨es.eraseIdxIfInBounds j, c, by simp [hlt], ?_, ?_⟩⟩
    · unfold Builtin.delete_
      simp [run_underlying ht, MapKept.run_getObj_map hb, run_checkKey_string hK, hr, MapKept.run_setObj_map _ hb]
    · have hj : j < es.size := by have := (List.getElem?_eq_some_iff.1 h1).1; simpa using this
      have e1 : (es.eraseIdxIfInBounds j).toList = es.toList.eraseIdx j := by
        rw [Array.eraseIdxIfInBounds, dif_pos hj]; simp
      rw [e1]
      have e2 : es.toList.Perm (e :: es.toList.eraseIdx j) := perm_eraseIdx h1
      have e3 := (e2.map fun e => (e.key, e.val)).symm.trans (hp.trans (hl'.map _))
      have hevv : e.val = v := nodup_fst hn hsl hv
      simp only [List.map_cons, h2, hevv] at e3
      exact e3.cons_inv
    · have := (hl'.map (·.1)).nodup_iff.1 hn
      simp only [List.map_cons, List.nodup_cons] at this
      exact this.2
  · exfalso
    have : (Value.string k, v) ∈ es.toList.map fun e => (e.key, e.val) := hp.mem_iff.2 (List.mem_map.2 ⟨(k, v), hv, rfl⟩)
    obtain ⟨e, he, hee⟩ := List.mem_map.1 this
    simp only [Prod.mk.injEq] at hee
    exact h1 e he hee.1

/-- All go. -/
theorem MapIs.wipe (h : MapIs w m l) (ht : P.underlying t = some (.map K E)) {T : TypeId} :
    ∃ o, (Builtin.clear_ #[t] T #[.map (some m)]).run P w = .ok (.tuple #[]) { w with heap := w.heap.setIfInBounds m o } ∧ MapIs { w with heap := w.heap.setIfInBounds m o } m [] := by
  have hlt := h.lt
  obtain ⟨es, c, hb, hp, hn⟩ := h
  refine ⟨.map #[] c, ?_, #[], c, by simp [hlt], by simp, by simp⟩
  unfold Builtin.clear_
  simp [run_underlying ht, MapKept.run_getObj_map hb, MapKept.run_setObj_map _ hb]

/-- How many. -/
theorem MapIs.count (h : MapIs w m l) (ht : P.underlying t = some (.map K E)) {T : TypeId} : (Builtin.len_ #[t] T #[.map (some m)]).run P w = .ok (.int .i64 l.length) w := by
  obtain ⟨es, c, hb, hp, hn⟩ := h
  have := hp.length_eq
  simp at this
  unfold Builtin.len_
  simp [run_underlying ht, MapKept.run_getObj_map hb, this, goInt]
end

theorem Fr.setObj {S : Nat → Prop} {a w : World} (h : Fr S a w) {m : Nat} (hp : m < a.heap.size → S m) (o : Obj) : Fr S a { w with heap := w.heap.setIfInBounds m o } :=
  ⟨h.os, h.tape, h.output, by have := h.size; simpa using this, fun k hk hS => by
    have : k ≠ m := fun e => hS (by subst e; exact hp hk)
    simp only [Array.getElem?_setIfInBounds]
    rw [if_neg (Ne.symm this)]
    exact h.block k hk hS⟩
theorem Blk.setObj {w : World} {b : Nat} {t : TypeId} {cs : Array Value} (h : Blk w b t cs) {m : Nat} (hb : b ≠ m) (o : Obj) : Blk { w with heap := w.heap.setIfInBounds m o } b t cs := by
  unfold Blk at *
  simp only [Array.getElem?_setIfInBounds]
  rw [if_neg (Ne.symm hb)]
  exact h
theorem MapIs.ne_blk {w : World} {m b : Nat} {l : List (ByteArray × Value)} {T : TypeId} {cs : Array Value} (h : MapIs w m l) (k : Blk w b T cs) : b ≠ m := by
  rintro rfl
  obtain ⟨es, c, hb, _⟩ := h
  unfold Blk at k
  rw [hb] at k
  cases k

end Go.Q
