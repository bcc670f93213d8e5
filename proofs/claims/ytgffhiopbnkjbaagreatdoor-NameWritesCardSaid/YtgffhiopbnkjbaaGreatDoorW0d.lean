/-
  Rows that are appended, whatever they are; slices.Clone. Slices of elements of any kind: read, and in rows of one's own. All elements of a slice are appended to a row of one's own. slices.SortStableFunc of wholes that lie in order already; build.SetOf. The walks of the layer 8 (build): a sheet in memory, and its calls. The walks of the layer 8 (build): a sheet's Fail, Open, Shut, Bytes. The walks of the layer 8 (build): Open; a frame's whole; Bytes. The walks of the layer 8 (build): Shut. The walk of the layer 14 (name): Write. The reference of the layer 14: WriteStep, Write. The reference's numbers: plain laws: bytes of a number, its digits to the base 10. The reference of the layer 3: Of, Made, Text at small numbers. The reference of the layer 3: Text at small numbers. The reference of the layer 4: Text. The reference's folding of signs: plain laws: cut at both ends, and a blank where blanks begin. The reference of the layer 13: blank, Signs. The reference of the layer 13: Key. The reference of the layer 1: Hex. The reference of the layer 14: Text, partKey. The least key that is greater than the last one, again and again: plain laws: it goes through the sorted ones, each once. The reference's Key: plain laws. The reference of the layer 14: Key, Same. For a drawn region that is walked operation by operation: the operation at a place of a row that is written out. The reference of the layer 14: Like. What names of one part mean: plain laws: a text of another kind with the same signs means the same; another type does not. The chapter's example of names: closed facts. The walk of the names' example.
-/
import Derived.Test.YtgffhiopbnkjbaaGreatDoorW0b
import Derived.Lib.SliceRun
import Derived.Laws.OwnMore
import Derived.Deep.CutRange
import Derived.Deep.Cut
import Derived.Test.YtgffhiopbnkjbaaGreatDoorW0c
import Derived.Test.YtgffhiopbnkjbaaGreatDoorW0a
import Derived.Lib.ItoaNum
import Derived.Deep.CutBlock
import Derived.Deep.RegionLaw
import Derived.Sort.Walk0
import Derived.Laws.Cover1
namespace Go.Q
open Go Go.RowKit
section
variable {P : Program}
theorem append_none {w : World} {base n : Nat} {t e : TypeId} {v : Value} {xs : List Value} {z : Value} {size bytes : Nat} (hu : P.underlying t = some (.slice e)) (hinf : Info P e z size bytes) (hown : w.ownsRow base e size v n xs) (c : Nat) :
    (Builtin.append_ #[t, t] t #[v, .slice none 0 c]).run P w = .ok v w := by
  obtain ⟨i0, hi0, hz0, hz1, hz2⟩ := info_parts hinf
  rcases hown.2 with ⟨rfl, rfl⟩ | ⟨g, cap, cur, rfl, _, _, hnc, _⟩
  · simp [Builtin.append_, run_underlying hu, sizeOf, typeInfo, hi0, Builtin.lenOf, Builtin.firstCells]
  · simp [Builtin.append_, run_underlying hu, sizeOf, typeInfo, hi0, Builtin.lenOf, Builtin.firstCells, hnc, storeCells]
/-- All elements of a slice are appended. -/
theorem append_vals {w : World} {base n : Nat} {t e : TypeId} {v y : Value} {xs news : List Value} {z : Value} {bytes : Nat} (hu : P.underlying t = some (.slice e)) (hinf : Info P e z 1 bytes) (hzs : z.cells.size = 1) (hby : bytes ≤ 64)
    (hown : w.ownsRow base e 1 v n xs) (hb : base ≤ w.heap.size) (hy : Vals w y news) (h1 : ∀ u ∈ news, u.oneCell' = true) (hsz : n + news.length ≤ 1099511627776) :
    ∃ a' c' w', (Builtin.append_ #[t, t] t #[v, y]).run P w = .ok (.slice a' (n + news.length) c') w' ∧ w'.ownsRow base e 1 (.slice a' (n + news.length) c') (n + news.length) (xs ++ news) ∧ Fr (fun k => v.ownBlock = some k) w w' ∧ (∀ k, (Value.slice a' (n + news.length) c').ownBlock = some k → v.ownBlock = some k ∨ w.heap.size ≤ k) := by
  obtain ⟨a, cap, rfl, hc, hm, hx⟩ := hy
  cases a with
  | none =>
    have h0 : news = [] := by
      cases news with
      | nil => rfl
      | cons u s => obtain ⟨b, o, e, -⟩ := hx (by simp); cases e
    subst h0
    obtain ⟨av, m, cv, rfl, rfl⟩ := own_shape hown
    exact ⟨av, cv, w, append_none hu hinf hown cap, by simpa using hown, Fr.refl _, fun k hk => .inl hk⟩
  | some ad =>
    refine append_gen hu hinf hzs (by decide) hby hown hb ad news.length cap news (by omega) (fun j u hj => ?_) h1 hsz
    have hj2 := (List.getElem?_eq_some_iff.1 hj).1
    obtain ⟨b, o, e, hy⟩ := hx (by omega)
    simp only [Option.some.injEq] at e
    subst e
    rw [show (⟨b, o, none⟩ : Addr).add j = ⟨b, o + j, none⟩ from by unfold Addr.add; split <;> simp_all]
    exact hy j u hj
end
end Go.Q
namespace Go.Proofs.YtgffhiopbnkjbaaGreatDoor
open Go Go.RowKit Go.Q
set_option linter.unusedSimpArgs false

set_option maxRecDepth 20000 in
set_option maxHeartbeats 1000000 in
theorem cloneInt_any (v : Value) (o : List Int) (w : World) (h : Ints w v o) (hl : o.length ≤ 100000000000) :
    Calls Tryz.prog 86 #[v] w fun e w' => (∃ u, e = .returned u ∧ w'.ownsRow w.heap.size 3 1 u o.length (intCells o)) ∧ Fr (fun _ => False) w w' := by
  obtain ⟨a, cap, rfl, -⟩ := Ints.form h
  have qT : ∀ (w : World) (a : Option Addr) (n c n' c' : Nat), (binOp .eql 22 (.slice a n c) (.slice none n' c')).run Tryz.prog w = .ok (.bool a.isNone) w := fun w a n c n' c' => Lib.run_eql_slice_nil w _ _ a n c n' c' Tryz.underlying22
  cases a with
  | none =>
    have h0 : o = [] := by
      obtain ⟨a0, c0, he, _, _, hx⟩ := Ints.form h
      cases o with
      | nil => rfl
      | cons u s =>
        obtain ⟨b, o, e, -⟩ := hx (by simp)
        simp only [Value.slice.injEq] at he
        rw [e] at he
        cases he.1
    subst h0
    clear h
    go_enter Tryz.func86, Tryz.ntmps86
    go_wp2_with fail
    go_ret
    exact ⟨⟨_, rfl, rfl, .inl ⟨rfl, rfl⟩⟩, Fr.refl _⟩
  | some ad =>
    have B0 := Blk.new w 3 #[]
    have F0 : Fr (fun _ => False) w (w.alloc (.cells #[] 3)) := (Fr.refl w).alloc _
    have hl2 : (intCells o).length = o.length := intCells_len o
    obtain ⟨a', c', w', hrun, hown, F1, -⟩ := append_vals Tryz.underlying22 info3 rfl (by decide) (own_block B0 0 (Nat.le_refl _) (Nat.zero_le _) w.heap.size (Nat.le_refl _)) F0.size (h.old F0) (intCells_one o) (by rw [hl2]; omega)
    rw [hl2, Nat.zero_add] at hrun hown
    have HF := Lib.hid (F0.trans' F1 (fun i hi e => by simp [Value.ownBlock] at e; omega))
    have HRUN := Lib.hid hrun
    have HOW := Lib.hid hown
    clear hrun hown F1 B0 F0 h hl2
    go_enter Tryz.func86, Tryz.ntmps86
    go_wp2_with (at_builtin; refine wpList_append_run (by rfl) (.tmp 5) (.tmp 6) 22 (by rfl) _ w' (by exact HRUN.out) ?_)
    go_ret
    exact ⟨⟨_, rfl, HOW.out⟩, HF.out⟩

set_option maxRecDepth 20000 in
set_option maxHeartbeats 1000000 in
theorem cloneByte_any (v : Value) (o : List UInt8) (w : World) (h : Bytes w v o) (hl : o.length ≤ 100000000000) :
    Calls Tryz.prog 87 #[v] w fun e w' => (∃ u, e = .returned u ∧ w'.ownsRow w.heap.size 5 1 u o.length (Lib.byteCells o)) ∧ Fr (fun _ => False) w w' := by
  obtain ⟨a, cap, rfl, -⟩ := Vals.form h
  have qT : ∀ (w : World) (a : Option Addr) (n c n' c' : Nat), (binOp .eql 23 (.slice a n c) (.slice none n' c')).run Tryz.prog w = .ok (.bool a.isNone) w := fun w a n c n' c' => Lib.run_eql_slice_nil w _ _ a n c n' c' Tryz.underlying23
  cases a with
  | none =>
    have h0 : o = [] := by
      obtain ⟨a0, c0, he, _, _, hx⟩ := Vals.form h
      cases o with
      | nil => rfl
      | cons u s =>
        obtain ⟨b, o, e, -⟩ := hx (by simp)
        simp only [Value.slice.injEq] at he
        rw [e] at he
        cases he.1
    subst h0
    clear h
    go_enter Tryz.func87, Tryz.ntmps87
    go_wp2_with fail
    go_ret
    exact ⟨⟨_, rfl, rfl, .inl ⟨rfl, rfl⟩⟩, Fr.refl _⟩
  | some ad =>
    have B0 := Blk.new w 5 #[]
    have F0 : Fr (fun _ => False) w (w.alloc (.cells #[] 5)) := (Fr.refl w).alloc _
    have hl2 : (Lib.byteCells o).length = o.length := byteCells_len o
    obtain ⟨a', c', w', hrun, hown, F1, -⟩ := append_vals Tryz.underlying23 info5 rfl (by decide) (own_block B0 0 (Nat.le_refl _) (Nat.zero_le _) w.heap.size (Nat.le_refl _)) F0.size (h.old F0) (byteCells_one o) (by rw [hl2]; omega)
    rw [hl2, Nat.zero_add] at hrun hown
    have HF := Lib.hid (F0.trans' F1 (fun i hi e => by simp [Value.ownBlock] at e; omega))
    have HRUN := Lib.hid hrun
    have HOW := Lib.hid hown
    clear hrun hown F1 B0 F0 h hl2
    go_enter Tryz.func87, Tryz.ntmps87
    go_wp2_with (at_builtin; refine wpList_append_run (by rfl) (.tmp 5) (.tmp 6) 23 (by rfl) _ w' (by exact HRUN.out) ?_)
    go_ret
    exact ⟨⟨_, rfl, HOW.out⟩, HF.out⟩
end Go.Proofs.YtgffhiopbnkjbaaGreatDoor

namespace Go.Q
open Go Go.RowKit
/-- A slice whose elements, sz cells each, read as l. -/
def LAt {α : Type} (sz : Nat) (R : World → List Value → α → Prop) (w : World) (v : Value) (l : List α) : Prop :=
  ∃ a cap, v = .slice a l.length cap ∧ l.length ≤ cap ∧ cap ≤ maxLen ∧ (0 < l.length → ∃ b o, a = some ⟨b, o, none⟩ ∧ ∀ i x, l[i]? = some x → ∃ cs, cs.length = sz ∧ (∀ j u, cs[j]? = some u → w.cell? ⟨b, o + sz * i + j, none⟩ = some u) ∧ R w cs x)
/-- A row of one's own; its elements stand whatever changes in K. -/
def GRow {α : Type} (sz : Nat) (R : World → List Value → α → Prop) (K : Nat → Prop) (t : TypeId) (w : World) (base : Nat) (v : Value) (l : List α) : Prop :=
  ∃ cs : List Value, w.ownsRow base t sz v l.length cs ∧ ∀ i x, l[i]? = some x → ∃ us, us.length = sz ∧ (∀ j u, us[j]? = some u → cs[sz * i + j]? = some u) ∧ Kept (fun W => R W us x) (fun k => v.ownBlock = some k ∨ K k) w
section
variable {α : Type} {sz : Nat} {R : World → List Value → α → Prop} {K : Nat → Prop} {t : TypeId} {w : World} {base : Nat} {v : Value} {l : List α}
theorem LAt.old (hR : ∀ w w' cs x, R w cs x → Fr (fun _ => False) w w' → R w' cs x) {w' : World} (h : LAt sz R w v l) (f : Fr (fun _ => False) w w') : LAt sz R w' v l := by
  obtain ⟨a, cap, rfl, h1, h2, h3⟩ := h
  refine ⟨a, cap, rfl, h1, h2, fun h0 => ?_⟩
  obtain ⟨b, o, rfl, hy⟩ := h3 h0
  refine ⟨b, o, rfl, fun i p hp => ?_⟩
  obtain ⟨cs, e1, e2, e3⟩ := hy i p hp
  exact ⟨cs, e1, fun j u hu => f.cell (e2 j u hu) (fun h => h), hR _ _ _ _ e3 f⟩
theorem GRow.nil (sz : Nat) (R : World → List Value → α → Prop) (K : Nat → Prop) (t : TypeId) (w : World) (base : Nat) : GRow sz R K t w base (.slice none 0 0) [] := ⟨[], ⟨by simp, .inl ⟨rfl, rfl⟩⟩, fun i p hp => by simp at hp⟩
theorem GRow.keep (h : GRow sz R K t w base v l) : ∀ k, v.ownBlock = some k → base ≤ k ∧ k < w.heap.size := fun k hk => by
  obtain ⟨us, h1, -⟩ := h
  exact h1.lt k hk
theorem GRow.shape (h : GRow sz R K t w base v l) : ∃ a c, v = .slice a l.length c := by
  obtain ⟨us, h1, -⟩ := h
  obtain ⟨a, m, c, rfl, rfl⟩ := own_shape h1
  exact ⟨a, c, rfl⟩
theorem GRow.at (h : GRow sz R K t w base v l) (_hs : 0 < sz) : LAt sz R w v l := by
  obtain ⟨cs, ⟨h1, h2⟩, h3⟩ := h
  rcases h2 with ⟨rfl, h0⟩ | ⟨g, cap, cur, rfl, hg, hh, hnc, hcm, hcs, htk⟩
  · exact ⟨none, 0, by rw [h0], by omega, by unfold maxLen; omega, fun h => by omega⟩
  · refine ⟨_, cap, rfl, hnc, hcm, fun _ => ⟨g, 0, rfl, fun i p hp => ?_⟩⟩
    obtain ⟨us, e1, e2, e3⟩ := h3 i p hp
    refine ⟨us, e1, fun j u hu => ?_, e3.now⟩
    have hi := (List.getElem?_eq_some_iff.1 hp).1
    have hc := e2 j u hu
    have hj := (List.getElem?_eq_some_iff.1 hc).1
    have := congrArg (fun z : List Value => z[sz * i + j]?) htk
    simp only [List.getElem?_take, if_pos (show sz * i + j < l.length * sz by omega), Array.getElem?_toList] at this
    rw [Nat.zero_add]
    simp only [World.cell?, hh]
    exact this.trans hc
theorem GRow.fr {S : Nat → Prop} {w' : World} (h : GRow sz R K t w base v l) (f : Fr S w w') (hS : ∀ k, k < w.heap.size → S k → K k) (hv : ∀ k, v.ownBlock = some k → ¬ S k) : GRow sz R K t w' base v l := by
  obtain ⟨cs, h1, h2⟩ := h
  refine ⟨cs, Go.Proofs.YtgffhiopbnkjbaaGreatDoor.ownsRow_fr h1 f hv, fun i p hp => ?_⟩
  obtain ⟨us, e1, e2, e3⟩ := h2 i p hp
  exact ⟨us, e1, e2, e3.step f (fun k hk hs => .inr (hS k hk hs)) (fun k hk => .inl hk)⟩
theorem GRow.old {w' : World} (h : GRow sz R K t w base v l) (f : Fr (fun _ => False) w w') : GRow sz R K t w' base v l := h.fr f (fun _ _ h => h.elim) (fun _ _ h => h)
/-- Changes in K leave it. -/
theorem GRow.kept (h : GRow sz R K t w base v l) (hs : 0 < sz) (K' : Nat → Prop) (hK : ∀ k, K' k → K k ∧ k < base) : Kept (fun W => LAt sz R W v l) K' w := fun W f =>
  (h.fr f (fun k _ hk => (hK k hk).1) (fun k hk hs => by have := (h.keep k hk).1; have := (hK k hs).2; omega)).at hs
/-- An element more. -/
theorem GRow.add {P : Program} {s : TypeId} {z : Value} {bytes : Nat} (hu0 : P.underlying s = some (.slice t)) (hinf : Info P t z sz bytes) (hzs : z.cells.size = sz) (hs0 : 0 < sz) (hby : bytes ≤ 64) {wa : World} (h : GRow sz R K t w base v l) (hb : base ≤ w.heap.size) (F1 : Fr (fun _ => False) w wa) (g : Nat) (us : List Value) (hus : us.length = sz) (BX : Blk wa g t us.toArray) (h1 : ∀ u ∈ us, u.oneCell' = true) (x : α) (hk : Kept (fun W => R W us x) (fun k => v.ownBlock = some k ∨ K k) w) (hn : l.length ≤ 109951162777) :
    ∃ a c w', (Builtin.append_ #[s, s] s #[v, .slice (some ⟨g, 0, none⟩) 1 1]).run P wa = .ok (.slice a (l.length + 1) c) w' ∧ GRow sz R K t w' base (.slice a (l.length + 1) c) (l ++ [x]) ∧ Fr (fun k => v.ownBlock = some k) w w' ∧ (∀ k, (Value.slice a (l.length + 1) c).ownBlock = some k → v.ownBlock = some k ∨ w.heap.size ≤ k) := by
  obtain ⟨cs, g1, g2⟩ := h
  have hcl : cs.length = l.length * sz := g1.1
  obtain ⟨a, c, w', hrun, h4, F2, h5⟩ := add_gen hu0 hinf hzs hs0 hby g1 hb F1 g us hus BX h1 hn
  have hst : ∀ (us : List Value) (y : α), Kept (fun W => R W us y) (fun k => v.ownBlock = some k ∨ K k) w → Kept (fun W => R W us y) (fun k => (Value.slice a (l.length + 1) c).ownBlock = some k ∨ K k) w' := fun us y hq =>
    hq.step F2 (fun _ _ h => .inl h) (fun k hk => by
      rcases hk with h | h
      · rcases h5 k h with h | h
        · exact .inl (.inl h)
        · exact .inr h
      · exact .inl (.inr h))
  refine ⟨a, c, w', hrun, ⟨cs ++ us, by rw [List.length_append]; exact h4, fun i y hy => ?_⟩, F2, h5⟩
  rcases Nat.lt_or_ge i l.length with hi | hi
  · rw [List.getElem?_append_left hi] at hy
    obtain ⟨us', e1, e2, e3⟩ := g2 i y hy
    refine ⟨us', e1, fun j u hu => ?_, hst _ _ e3⟩
    have := e2 j u hu
    rw [List.getElem?_append_left (List.getElem?_eq_some_iff.1 this).1]
    exact this
  · obtain rfl : i = l.length := by
      have := (List.getElem?_eq_some_iff.1 hy).1
      simp at this
      omega
    rw [List.getElem?_append_right (Nat.le_refl _)] at hy
    simp at hy
    subst hy
    refine ⟨us, hus, fun j u hu => ?_, hst _ _ hk⟩
    rw [Nat.mul_comm, List.getElem?_append_right (by rw [hcl]; exact Nat.le_add_right _ _), hcl, Nat.add_sub_cancel_left]
    exact hu
end
/-- A part's cells. -/
def RPart (W : World) (cs : List Value) (p : Part) : Prop := ∃ x y, cs = [x, y] ∧ Ints W x p.o ∧ Bytes W y p.b
/-- A step's cell. -/
def RStep (W : World) (cs : List Value) (r : List Part) : Prop := ∃ u, cs = [u] ∧ Attrs W u r
theorem LAt.attrs {w : World} {v : Value} {l : List Part} (h : LAt 2 RPart w v l) : Attrs w v l := by
  obtain ⟨a, cap, rfl, h1, h2, h3⟩ := h
  refine ⟨a, cap, rfl, h1, h2, fun h0 => ?_⟩
  obtain ⟨b, o, rfl, hy⟩ := h3 h0
  refine ⟨b, o, rfl, fun i p hp => ?_⟩
  obtain ⟨cs, -, e2, x, y, rfl, g1, g2⟩ := hy i p hp
  exact ⟨x, y, e2 0 x rfl, e2 1 y rfl, g1, g2⟩
theorem LAt.name {w : World} {v : Value} {n : List (List Part)} (h : LAt 1 RStep w v n) : NameAt w v n := by
  obtain ⟨a, cap, rfl, h1, h2, h3⟩ := h
  refine ⟨a, cap, rfl, h1, h2, fun h0 => ?_⟩
  obtain ⟨b, o, rfl, hy⟩ := h3 h0
  refine ⟨b, o, rfl, fun i r hr => ?_⟩
  obtain ⟨cs, -, e2, u, rfl, g1⟩ := hy i r hr
  exact ⟨u, by have := e2 0 u rfl; rw [Nat.one_mul] at this; exact this, g1⟩
theorem Kept.imp {A B : World → Prop} {K : Nat → Prop} {w : World} (h : Kept A K w) (f : ∀ W, A W → B W) : Kept B K w := fun W g => f W (h W g)
theorem Kept.both {A B : World → Prop} {K : Nat → Prop} {w : World} (h : Kept A K w) (g : Kept B K w) : Kept (fun W => A W ∧ B W) K w := fun W f => ⟨h W f, g W f⟩
end Go.Q

namespace Go.Q
open Go Go.RowKit
theorem GRow.addAll {P : Program} {α : Type} {R : World → List Value → α → Prop} {K : Nat → Prop} {t s : TypeId} {w : World} {base : Nat} {v y z : Value} {l r : List α} {news : List Value} {bytes : Nat} (hu0 : P.underlying s = some (.slice t)) (hinf : Info P t z 1 bytes) (hzs : z.cells.size = 1) (hby : bytes ≤ 64) (h : GRow 1 R K t w base v l) (hb : base ≤ w.heap.size) (hy : Vals w y news) (hl : news.length = r.length) (h1 : ∀ u ∈ news, u.oneCell' = true) (hel : ∀ (i : Nat) (u : Value) (x : α), news[i]? = some u → r[i]? = some x → Kept (fun W => R W [u] x) (fun k => v.ownBlock = some k ∨ K k) w) (hn : l.length + r.length ≤ 1099511627776) :
    ∃ a c w', (Builtin.append_ #[s, s] s #[v, y]).run P w = .ok (.slice a (l.length + r.length) c) w' ∧ GRow 1 R K t w' base (.slice a (l.length + r.length) c) (l ++ r) ∧ Fr (fun k => v.ownBlock = some k) w w' := by
  obtain ⟨cs, g1, g2⟩ := h
  have hcl : cs.length = l.length * 1 := g1.1
  obtain ⟨a, c, w', hrun, h4, F2, h5⟩ := append_vals hu0 hinf hzs hby g1 hb hy h1 (by rw [hl]; exact hn)
  rw [hl] at hrun h4 h5
  have hst : ∀ (us : List Value) (x : α), Kept (fun W => R W us x) (fun k => v.ownBlock = some k ∨ K k) w → Kept (fun W => R W us x) (fun k => (Value.slice a (l.length + r.length) c).ownBlock = some k ∨ K k) w' := fun us y hq =>
    hq.step F2 (fun _ _ h => .inl h) (fun k hk => by
      rcases hk with h | h
      · rcases h5 k h with h | h
        · exact .inl (.inl h)
        · exact .inr h
      · exact .inl (.inr h))
  refine ⟨a, c, w', hrun, ⟨cs ++ news, by rw [List.length_append]; exact h4, fun i x hx => ?_⟩, F2⟩
  rcases Nat.lt_or_ge i l.length with hi | hi
  · rw [List.getElem?_append_left hi] at hx
    obtain ⟨us', e1, e2, e3⟩ := g2 i x hx
    refine ⟨us', e1, fun j u hu => ?_, hst _ _ e3⟩
    have := e2 j u hu
    rw [List.getElem?_append_left (List.getElem?_eq_some_iff.1 this).1]
    exact this
  · rw [List.getElem?_append_right hi] at hx
    have hir : i - l.length < news.length := by rw [hl]; exact (List.getElem?_eq_some_iff.1 hx).1
    refine ⟨[news[i - l.length]], rfl, fun j u hu => ?_, hst _ _ (hel _ _ x (List.getElem?_eq_getElem hir) hx)⟩
    match j, hu with
    | 0, hu =>
      simp only [List.getElem?_cons_zero, Option.some.injEq] at hu
      subst hu
      rw [List.getElem?_append_right (by omega), show 1 * i + 0 - cs.length = i - l.length from by omega]
      exact List.getElem?_eq_getElem hir
    | j + 1, hu => simp at hu
/-- A step of one cell, as an element. -/
theorem step_of {u : Value} {r : List Part} {K : Nat → Prop} {w : World} (h : Kept (fun W => Attrs W u r) K w) : Kept (fun W => RStep W [u] r) K w := fun W f => ⟨u, rfl, h W f⟩
end Go.Q

namespace Go.Q
open Go Go.RowKit
theorem cmpS_swap : ∀ a b : List UInt8, cmpS a b = - cmpS b a
  | [], [] => rfl
  | [], _ :: _ => rfl
  | _ :: _, [] => rfl
  | x :: a, y :: b => by
    simp only [cmpS]
    by_cases h : x = y
    · rw [if_pos h, if_pos h.symm]
      exact cmpS_swap a b
    · rw [if_neg h, if_neg (fun e : y = x => h e.symm)]
      have hne : x.toNat ≠ y.toNat := fun e => h (UInt8.toNat_inj.1 e)
      by_cases h1 : x.toNat < y.toNat
      · rw [if_pos h1, if_neg (by omega)]
      · rw [if_neg h1, if_pos (by omega)]
        rfl
/-- In order: none is less than the one ahead of it. -/
def Upward (ls : List (List UInt8)) : Prop := ∀ (j : Nat) (x y : List UInt8), ls[j]? = some x → ls[j + 1]? = some y → 0 ≤ cmpS y x
theorem steps_in {p : Part} {t : List Part} {last : Option (List UInt8)} {ws : List (List UInt8)} (h : stepsS last (p :: t) = some ws) : ∃ x ws', attrS p.o p.b = some x ∧ stepsS (some x) t = some ws' ∧ ws = x :: ws' ∧ ∀ y, last = some y → cmpS y x < 0 := by
  simp only [stepsS] at h
  cases hx : attrS p.o p.b with
  | none => rw [hx] at h; cases h
  | some x =>
    rw [hx] at h
    simp only at h
    have key : (stepsS (some x) t).map (x :: ·) = some ws ∧ ∀ y, last = some y → cmpS y x < 0 := by
      cases last with
      | none =>
        rw [if_neg (by simp)] at h
        exact ⟨h, fun y e => by cases e⟩
      | some y =>
        by_cases hlt : 0 ≤ cmpS y x
        · rw [if_pos (by simpa using hlt)] at h; cases h
        · rw [if_neg (by simpa using hlt)] at h
          exact ⟨h, fun z e => by cases e; omega⟩
    obtain ⟨h, hlt⟩ := key
    cases hs : stepsS (some x) t with
    | none => rw [hs] at h; cases h
    | some ws' =>
      rw [hs] at h
      simp only [Option.map_some, Option.some.injEq] at h
      exact ⟨x, ws', rfl, hs, h.symm, hlt⟩
theorem steps_up : ∀ (l : List Part) (last : Option (List UInt8)) (ws : List (List UInt8)), stepsS last l = some ws → (∀ y x, last = some y → ws[0]? = some x → cmpS y x < 0) ∧ Upward ws ∧ ws.length = l.length
  | [], last, ws, h => by
    simp only [stepsS, Option.some.injEq] at h
    subst h
    exact ⟨fun _ _ _ h => by simp at h, fun _ _ _ h => by simp at h, rfl⟩
  | p :: t, last, ws, h => by
    obtain ⟨x, ws', -, hs, rfl, hlt⟩ := steps_in h
    obtain ⟨h1, h2, h3⟩ := steps_up t (some x) ws' hs
    refine ⟨fun y z hl hz => ?_, fun j a b ha hb => ?_, by rw [List.length_cons, List.length_cons, h3]⟩
    · simp only [List.getElem?_cons_zero, Option.some.injEq] at hz
      subst hz
      exact hlt y hl
    · cases j with
      | zero =>
        simp only [List.getElem?_cons_zero, Option.some.injEq, Nat.zero_add, List.getElem?_cons_succ] at ha hb
        subst ha
        have := h1 x b rfl hb
        have := cmpS_swap b x
        omega
      | succ j =>
        simp only [List.getElem?_cons_succ] at ha hb
        exact h2 j a b ha hb
theorem rdn_up {l : List Part} {ws : List (List UInt8)} (h : rdnS l = some ws) : Upward ws ∧ ws.length ≤ 16 := by
  unfold rdnS at h
  split at h
  · cases h
  rename_i hn
  obtain ⟨-, h2, h3⟩ := steps_up l none ws h
  exact ⟨h2, by omega⟩
/-- A step as a whole. -/
def rdnWhole (ws : List (List UInt8)) : List UInt8 := wrapS (tagOf 17) ws.flatten
theorem mem_flat {ws : List (List UInt8)} {x : List UInt8} (h : x ∈ ws) : x.length ≤ ws.flatten.length := by
  obtain ⟨i, hi⟩ := List.mem_iff_getElem?.1 h
  have h1 := flat_take hi
  have h2 := flat_le ws (i + 1)
  rw [h1, List.length_append] at h2
  omega
end Go.Q
namespace Go.Proofs.YtgffhiopbnkjbaaGreatDoor
open Go Go.RowKit Go.Q
set_option linter.unusedSimpArgs false

set_option maxRecDepth 20000 in
set_option maxHeartbeats 2000000 in
theorem insertion_up (v : Value) (ls : List (List UInt8)) (w : World) (h : Parts w v ls) (hU : Upward ls) (hl : ∀ l ∈ ls, l.length ≤ 1099511627776) (hn : ls.length ≤ 1000) :
    Calls Tryz.prog 200 #[v, .int .i64 0, .int .i64 ls.length, .func (.func 100) #[] #[]] w fun e w' => e = .returned (.tuple #[]) ∧ Fr (fun _ => False) w w' := by
  obtain ⟨a, cap, rfl, hx⟩ := h.form
  have HX := Lib.hid hx
  have HU := Lib.hid hU
  have HL := Lib.hid hl
  clear h hx hU hl
  go_enter Tryz.func200, Tryz.ntmps200
  go_wp2_with fail
  go_loopg [8] ls.length (fun g ii wr => ∃ q : Nat, g = ls.length - q ∧ q ≤ 1000 ∧ ii = .int .i64 ((q : Int) + 1) ∧ Fr (fun _ => False) w wr)
  case atStart => exact ⟨0, rfl, by omega, rfl, Fr.refl _⟩
  case round =>
    obtain ⟨q, hg, hq, rfl, F⟩ := hrel
    have HG := Lib.hid hg
    have HF := Lib.hid F
    clear hg F
    by_cases hql : q + 1 < ls.length
    · have q1 : (q : Int) + 1 < (ls.length : Int) := by omega
      obtain ⟨b, off, rfl, hy⟩ := HX.out (by omega)
      obtain ⟨x, hx⟩ : ∃ x, ls[q]? = some x := ⟨_, List.getElem?_eq_getElem (by omega)⟩
      obtain ⟨y, hyy⟩ : ∃ y, ls[q + 1]? = some y := ⟨_, List.getElem?_eq_getElem hql⟩
      obtain ⟨px, cx, e1, hbx⟩ := hy q x hx
      obtain ⟨py, cy, e2, hby⟩ := hy (q + 1) y hyy
      have hcmp := HU.out q x y hx hyy
      obtain ⟨k, hk⟩ : ∃ k, k = cmpS y x := ⟨_, rfl⟩
      rw [← hk] at hcmp
      have HK := Lib.hid hk
      have hlx := HL.out x (List.mem_of_getElem? hx)
      have hly := HL.out y (List.mem_of_getElem? hyy)
      have HE := Lib.hid (fun w' (f : Fr (fun _ => False) w w') => And.intro (f.cell e1 (fun h => h)) (f.cell e2 (fun h => h)))
      have HC := Lib.hid (fun w' (f : Fr (fun _ => False) w w') => compare_any _ _ y x w' (hby.old f) (hbx.old f) hly hlx)
      rw [← HK.out] at HC
      have c1 : ¬ k < 0 := by omega
      have c2 : (0 : Int) < (q : Int) + 1 := by omega
      have c3 : (0 : Int) ≤ (q : Int) := by omega
      have c4 : (q : Int) < (ls.length : Int) := by omega
      clear hy hx hyy e1 e2 hbx hby hk hlx hly
      go_wp2_with fail
      go_loopg [9] 1 (fun g jj wx => g = 1 ∧ jj = .int .i64 ((q : Int) + 1) ∧ wx = wr)
      case atStart => exact ⟨rfl, rfl, rfl⟩
      case round =>
        obtain ⟨hg1, rfl, rfl⟩ := hrel
        clear hg1
        have HFD := Lib.hid HF.out.drew
        have hw1 : IntKind.i64.wrap ((q : Int) + 1 - 1) = (q : Int) := by simp [IntKind.wrap, IntKind.signed, IntKind.bits]; omega
        have hw2 : IntKind.i64.wrap (q : Int) = (q : Int) := by simp [IntKind.wrap, IntKind.signed, IntKind.bits]; omega
        have c6 : (0 : Int) ≤ (q : Int) + 1 := by omega
        have c7 : ((q : Int) + 1).toNat = q + 1 := by omega
        have c1' : decide (k < 0) = false := decide_eq_false (by omega)
        have c2' : decide ((0 : Int) < (q : Int) + 1) = true := decide_eq_true (by omega)
        have c5 : q < ls.length := by omega
        go_upto_region 4 with fail
        go_region_held3 (fun w' => w'.cell? ⟨b, off + q, none⟩ = some (.slice px x.length cx) ∧ w'.cell? ⟨b, off + (q + 1), none⟩ = some (.slice py y.length cy)) (first | exact HE.out _ HFD.out | exact HE.out _ (HFD.out.trans F2)) (first
          | (go_at_call 100; refine (HC.out _ HFD.out).mono ?_; rintro e w2 ⟨rfl, F2⟩))
        all_goals
          have HF2 := Lib.hid (HFD.out.trans F2)
          clear F2 hw1 hw2 c7 c1' c2' HFD
          go_wp2_with fail
          go_roundg (ls.length - (q + 1))
          case measure => rw [HG.out]; omega
          case rel => exact ⟨q + 1, rfl, by omega, by go_num, HF2.out⟩
    · have q1 : ¬ (q : Int) + 1 < (ls.length : Int) := by omega
      go_wp2_with fail
      go_end0
      exact ⟨rfl, HF.out⟩

set_option maxRecDepth 20000 in
set_option maxHeartbeats 2000000 in
theorem stable_up (v : Value) (ls : List (List UInt8)) (w : World) (h : Parts w v ls) (hU : Upward ls) (hl : ∀ l ∈ ls, l.length ≤ 1099511627776) (hn : ls.length ≤ 19) :
    Calls Tryz.prog 156 #[v, .int .i64 ls.length, .func (.func 100) #[] #[]] w fun e w' => e = .returned (.tuple #[]) ∧ Fr (fun _ => False) w w' := by
  have HI := Lib.hid (insertion_up v ls w h hU hl (by omega))
  obtain ⟨a, cap, rfl, -⟩ := h.form
  have q1 : ¬ (20 : Int) ≤ (ls.length : Int) := by omega
  have q2 : ¬ (20 : Int) < (ls.length : Int) := by omega
  clear h hU hl
  go_enter Tryz.func156, Tryz.ntmps156
  go_wp2_with fail
  go_loopg [7, 8] 1 (fun g aa bb wr => g = 1 ∧ aa = .int .i64 0 ∧ bb = .int .i64 20 ∧ wr = w)
  case atStart => exact ⟨rfl, rfl, rfl, rfl⟩
  case round =>
    obtain ⟨hg, rfl, rfl, rfl⟩ := hrel
    clear hg
    go_wp2_with fail
    refine HI.out.mono ?_
    rintro e w1 ⟨rfl, F1⟩
    have HF1 := Lib.hid F1
    clear F1
    go_wp2_with fail
    go_loopg [6] 1 (fun g bs wr => g = 1 ∧ bs = .int .i64 20 ∧ wr = w1)
    case atStart => exact ⟨rfl, rfl, rfl⟩
    case round =>
      obtain ⟨hg, rfl, rfl⟩ := hrel
      clear hg
      go_wp2_with fail
      go_end0
      exact ⟨rfl, HF1.out⟩

set_option maxRecDepth 20000 in
theorem sortStable_up (v : Value) (ls : List (List UInt8)) (w : World) (h : Parts w v ls) (hU : Upward ls) (hl : ∀ l ∈ ls, l.length ≤ 1099511627776) (hn : ls.length ≤ 19) :
    Calls Tryz.prog 116 #[v, .func (.func 100) #[] #[]] w fun e w' => e = .returned (.tuple #[]) ∧ Fr (fun _ => False) w w' := by
  have HI := Lib.hid (stable_up v ls w h hU hl hn)
  obtain ⟨a, cap, rfl, -⟩ := h.form
  clear h hU hl
  go_enter Tryz.func116, Tryz.ntmps116
  go_wp2_with fail
  refine HI.out.mono ?_
  rintro e w1 ⟨rfl, F1⟩
  go_wp2_with fail
  go_end0
  exact ⟨rfl, F1⟩

theorem parts_one {w : World} {ls : List (List UInt8)} {vs : List Value} (h3 : ∀ (i : Nat) (u : Value) (l : List UInt8), vs[i]? = some u → ls[i]? = some l → Bytes w u l) (h2 : vs.length = ls.length) : ∀ u ∈ vs, u.oneCell' = true := fun u hu => by
  obtain ⟨i, hi⟩ := List.mem_iff_getElem?.1 hu
  have hil : i < ls.length := by have := (List.getElem?_eq_some_iff.1 hi).1; omega
  obtain ⟨a, c, rfl, -⟩ := (h3 i u _ hi (List.getElem?_eq_getElem hil)).form
  rfl

set_option maxRecDepth 20000 in
set_option maxHeartbeats 1000000 in
theorem cloneParts_any (v : Value) (ls : List (List UInt8)) (w : World) (h : Parts w v ls) (hl : ls.length ≤ 100000000000) :
    Calls Tryz.prog 115 #[v] w fun e w' => (∃ u, e = .returned u ∧ Parts w' u ls) ∧ Fr (fun _ => False) w w' := by
  obtain ⟨vs, g1, g2, g3⟩ := h
  have h1 := parts_one g3 g2
  obtain ⟨a, cap, rfl, hc, hm, hx⟩ := g1
  have g1 : Vals w (.slice a vs.length cap) vs := ⟨a, cap, rfl, hc, hm, hx⟩
  have qT : ∀ (w : World) (a : Option Addr) (n c n' c' : Nat), (binOp .eql 137 (.slice a n c) (.slice none n' c')).run Tryz.prog w = .ok (.bool a.isNone) w := fun w a n c n' c' => Lib.run_eql_slice_nil w _ _ a n c n' c' Tryz.underlying137
  cases a with
  | none =>
    have h0 : vs = [] := by
      cases vs with
      | nil => rfl
      | cons u s =>
        obtain ⟨b, o, e, -⟩ := hx (by simp)
        cases e
    subst h0
    have hls : ls = [] := List.length_eq_zero_iff.1 g2.symm
    subst hls
    clear hx g1 g2 g3 h1
    go_enter Tryz.func115, Tryz.ntmps115
    go_wp2_with fail
    go_ret
    exact ⟨⟨_, rfl, [], Vals.nil w, rfl, fun i u l hu => by simp at hu⟩, Fr.refl _⟩
  | some ad =>
    have B0 := Blk.new w 23 #[]
    have F0 : Fr (fun _ => False) w (w.alloc (.cells #[] 23)) := (Fr.refl w).alloc _
    obtain ⟨a', c', w', hrun, hown, F1, -⟩ := append_vals Tryz.underlying137 info23 rfl (by decide) (own_block B0 0 (Nat.le_refl _) (Nat.zero_le _) w.heap.size (Nat.le_refl _)) F0.size (g1.old F0) h1 (by omega)
    rw [Nat.zero_add] at hrun hown
    have hF := F0.trans' F1 (fun i hi e => by simp [Value.ownBlock] at e; omega)
    have HF := Lib.hid hF
    have HP := Lib.hid (show Parts w' (.slice a' vs.length c') ls from ⟨vs, (Vals.of_own hown).1, g2, fun i u l hu hl => (g3 i u l hu hl).old hF⟩)
    have HRUN := Lib.hid hrun
    clear hrun hown F1 B0 F0 g1 g2 g3 h1 hx hF
    go_enter Tryz.func115, Tryz.ntmps115
    go_wp2_with (at_builtin; refine wpList_append_run (by rfl) (.tmp 5) (.tmp 6) 137 (by rfl) _ w' (by exact HRUN.out) ?_)
    go_ret
    exact ⟨⟨_, rfl, HP.out⟩, HF.out⟩

set_option maxRecDepth 20000 in
set_option maxHeartbeats 1000000 in
theorem setOf_up (v : Value) (ls : List (List UInt8)) (w : World) (h : Parts w v ls) (hU : Upward ls) (hf : ls.flatten.length ≤ 16777216) (hn : ls.length ≤ 19) (hl : ∀ l ∈ ls, l.length ≤ 1099511627776) :
    Calls Tryz.prog 81 #[v] w fun e w' => (∃ a c, e = .returned (.tuple #[.slice a (wrapS (tagOf 17) ls.flatten).length c, .int .i64 0]) ∧ w'.ownsRow w.heap.size 5 1 (.slice a (wrapS (tagOf 17) ls.flatten).length c) (wrapS (tagOf 17) ls.flatten).length (Lib.byteCells (wrapS (tagOf 17) ls.flatten))) ∧ Fr (fun _ => False) w w' := by
  have HC := Lib.hid (cloneParts_any v ls w h (by omega))
  obtain ⟨a, cap, rfl, -⟩ := h.form
  have HU := Lib.hid hU
  have HL := Lib.hid hl
  obtain ⟨T, hT⟩ : ∃ T, T = tagOf 17 := ⟨_, rfl⟩
  have HTG := Lib.hid (show tagGood T from by rw [hT]; exact ⟨by decide, by decide⟩)
  have HT := Lib.hid hT
  rw [← hT]
  clear h hU hl hT
  go_enter Tryz.func81, Tryz.ntmps81
  go_wp2_with fail
  refine HC.out.mono ?_
  rintro e w1 ⟨⟨u, rfl, hp⟩, F1⟩
  obtain ⟨a1, c1, rfl, -⟩ := hp.form
  have HS := Lib.hid (sortStable_up _ ls w1 hp HU.out HL.out hn)
  have HP := Lib.hid hp
  have HF1 := Lib.hid F1
  clear hp F1 HC
  go_wp2_with fail
  refine HS.out.mono ?_
  rintro e w2 ⟨rfl, F2⟩
  have HP2 := Lib.hid (HP.out.old F2)
  have HF2 := Lib.hid (HF1.out.trans F2)
  clear F2 HS HP HF1
  go_wp2_with fail
  refine (headOf_any 17 _).mono ?_
  rintro e w3 ⟨rfl, F3⟩
  rw [← HT.out]
  have HW := Lib.hid (wrap_any T HTG.out _ ls w3 (HP2.out.old F3) hf (by omega))
  have HF3 := Lib.hid (HF2.out.trans F3)
  clear F3 HP2 HF2
  go_wp2_with fail
  refine HW.out.mono ?_
  rintro e w4 ⟨v4, rfl, hown, F4⟩
  obtain ⟨a4, m4, c4, rfl, rfl⟩ := own_shape hown
  have HO := Lib.hid (own_le hown HF3.out.size)
  have HF4 := Lib.hid (HF3.out.trans F4)
  clear hown F4 HW
  go_wp2_with fail
  exact bodyPost_ret (v := .tuple #[.slice a4 (wrapS T ls.flatten).length c4, .int .i64 0]) (by simp [results, Tryz.results81, go_sem]) rfl ⟨⟨a4, c4, rfl, HO.out⟩, HF4.out⟩

/-- What WriteRdn gives. -/
def writeRdnOut (w w' : World) (r : Option (List (List UInt8))) (e : Ending) : Prop :=
  match r with
  | none => e = .returned (.tuple #[.slice none 0 0, .int .i64 1])
  | some ws => ∃ a c, e = .returned (.tuple #[.slice a (rdnWhole ws).length c, .int .i64 0]) ∧ w'.ownsRow w.heap.size 5 1 (.slice a (rdnWhole ws).length c) (rdnWhole ws).length (Lib.byteCells (rdnWhole ws))

set_option maxRecDepth 20000 in
set_option maxHeartbeats 1000000 in
theorem writeRdn_any (v : Value) (l : List Part) (w : World) (h : Attrs w v l) (hf : fewB l) (hs : ∀ ws, rdnS l = some ws → ws.flatten.length ≤ 16777216) :
    Calls Tryz.prog 41 #[v] w fun e w' => writeRdnOut w w' (rdnS l) e ∧ Fr (fun _ => False) w w' := by
  have HW := Lib.hid (wholesRdn_any v l w h hf)
  have HS := Lib.hid hs
  obtain ⟨a, cap, rfl, -⟩ := h
  clear hs
  go_enter Tryz.func41, Tryz.ntmps41
  go_wp2_with fail
  refine HW.out.mono ?_
  rintro e w1 ⟨⟨u, rfl, hr⟩, F1⟩
  have HF1 := Lib.hid F1
  clear F1 HW
  cases hd : rdnS l with
  | none =>
    clear hr
    have HD := Lib.hid hd
    clear hd
    simp only [Option.isSome_none]
    go_wp2_with fail
    refine bodyPost_ret (v := .tuple #[.slice none 0 0, .int .i64 1]) (by simp [results, Tryz.results41, go_sem]) rfl ⟨?_, HF1.out⟩
    rw [HD.out]
    rfl
  | some ws =>
    have hp := (hr ws hd).parts
    obtain ⟨hu, hn⟩ := rdn_up hd
    have hsz := HS.out ws hd
    obtain ⟨a1, c1, rfl, -⟩ := hp.form
    have HSO := Lib.hid (setOf_up _ ws w1 hp hu hsz (by omega) (fun l hl => by have := mem_flat hl; omega))
    obtain ⟨R, hR⟩ : ∃ R, R = rdnWhole ws := ⟨_, rfl⟩
    have HR := Lib.hid hR
    rw [show wrapS (tagOf 17) ws.flatten = R from hR.symm] at HSO
    simp only [Option.isSome_some]
    have HD := Lib.hid hd
    clear hr hp hu hsz hd hR
    go_wp2_with fail
    refine HSO.out.mono ?_
    rintro e w2 ⟨⟨a2, c2, rfl, hown⟩, F2⟩
    have HO := Lib.hid (own_le hown HF1.out.size)
    have HF2 := Lib.hid (HF1.out.trans F2)
    clear hown F2 HSO
    go_wp2_with fail
    refine bodyPost_ret (v := .tuple #[.slice a2 R.length c2, .int .i64 0]) (by simp [results, Tryz.results41, go_sem]) rfl ⟨?_, HF2.out⟩
    rw [HD.out]
    unfold writeRdnOut
    simp only
    rw [← HR.out]
    exact ⟨a2, c2, rfl, HO.out⟩
end Go.Proofs.YtgffhiopbnkjbaaGreatDoor

namespace Go.Proofs.YtgffhiopbnkjbaaGreatDoor
open Go Go.RowKit Go.Q
set_option linter.unusedSimpArgs false

theorem info171 : (Tryz.prog.info? 171).map (fun i => (i.zero, i.size, i.bytes)) = some (some (.agg #[.int .i64 0, .int .i64 0, .bool false, .bool false, .slice none 0 0]), 5, 56) := by kernel_rfl

theorem setAt4 {w : World} {z : Nat} {t : TypeId} {a0 a1 a2 a3 a4 a5 a6 : Value} (B : Blk w z t #[a0, a1, a2, a3, a4, a5, a6]) (v : Value) : Blk (w.setCell ⟨z, 4, none⟩ v) z t #[a0, a1, a2, a3, v, a5, a6] ∧ Fr (fun k => k = z) w (w.setCell ⟨z, 4, none⟩ v) :=
  ⟨by have := B.set 4 v; simpa using this, Fr.setCell (S := fun k => k = z) (p := ⟨z, 4, none⟩) (Fr.refl w) (fun _ => rfl) _⟩

set_option maxRecDepth 20000 in
theorem off_no (sb : Nat) (w : World) (h : w.cell? ⟨sb, 6, none⟩ = some (.int .i64 0)) :
    Calls Tryz.prog 106 #[pt sb] w fun e w' => e = .returned (.bool false) ∧ w = w' := by
  go_enter Tryz.func106, Tryz.ntmps106
  go_wp2_with fail
  go_ret
  exact ⟨rfl, rfl⟩

set_option maxRecDepth 20000 in
set_option maxHeartbeats 1000000 in
theorem frameAdd_any (sb : Nat) (t : TypeId) (a0 a1 a2 a3 a5 a6 bv u : Value) (base n : Nat) (xs ys : List UInt8) (w : World) (B : Blk w sb t #[a0, a1, a2, a3, bv, a5, a6]) (ho : w.ownsRow base 5 1 bv n (Lib.byteCells xs)) (hu : Bytes w u ys) (hb : base ≤ w.heap.size) (hap : ∀ k, bv.ownBlock = some k → k ≠ sb) (hn : n + ys.length ≤ 100000000) :
    Calls Tryz.prog 107 #[pt sb, u] w fun e w' => e = .returned (.tuple #[]) ∧ ∃ v, Blk w' sb t #[a0, a1, a2, a3, v, a5, a6] ∧ w'.ownsRow base 5 1 v (n + ys.length) (Lib.byteCells (xs ++ ys)) ∧ (∀ k, v.ownBlock = some k → bv.ownBlock = some k ∨ w.heap.size ≤ k) ∧ Fr (fun k => k = sb ∨ bv.ownBlock = some k) w w' := by
  obtain ⟨ab, mb, cb, rfl, rfl⟩ := own_shape ho
  obtain ⟨au, cu, rfl, -⟩ := hu.form
  have e4 := B.cell 4
  simp at e4
  obtain ⟨v, w1, hrun, ho1, F1, hv⟩ := append_bytes ho au ys.length cu ys hu (by omega) hb
  have B1 := B.fr F1 (fun e => hap sb e rfl)
  have SB := B1.cell
  have ZB := B1.frozen
  have HRUN := Lib.hid hrun
  have HO := Lib.hid ho1
  have HF1 := Lib.hid F1
  have HV := Lib.hid hv
  have HB1 := Lib.hid B1
  have hkp := (Vals.of_own ho).2
  have HKP := Lib.hid hkp
  have hlt := B.lt
  obtain ⟨a1, m1, c1, rfl, rfl⟩ := own_shape ho1
  clear hrun ho1 F1 hv hu ho B B1 hkp
  go_enter Tryz.func107, Tryz.ntmps107
  go_wp2_with (at_builtin; refine wpList_append_run (by rfl) (.tmp 8) (.tmp 9) 23 (by rfl) _ w1 (by exact HRUN.out) ?_)
  obtain ⟨B2, F2⟩ := setAt4 HB1.out (.slice a1 (mb + ys.length) c1)
  have hne : ∀ k, (Value.slice a1 (mb + ys.length) c1).ownBlock = some k → k ≠ sb := fun k hk e => by
    subst e
    rcases HV.out with h | h
    · rw [h] at hk
      exact hap k hk rfl
    · rw [h] at hk
      simp only [Option.some.injEq] at hk
      omega
  go_end0
  exact ⟨rfl, _, B2, ownsRow_fr HO.out F2 hne, fun k hk => by
    rcases HV.out with h | h
    · exact .inl (h ▸ hk)
    · rw [h] at hk
      simp only [Option.some.injEq] at hk
      exact .inr (by omega), (HF1.out.mono (fun _ _ h => .inr h)).trans (F2.mono (fun _ _ h => .inl h))⟩
/-- A frame. -/
structure Frm where
  tag : Tag
  set : Bool
  b : List UInt8
def frmCells (f : Frm) (bv : Value) : List Value := [.int .i64 f.tag.cls, .int .i64 f.tag.num, .bool f.tag.made, .bool f.set, bv]
/-- A sheet in memory, without an error; its blocks are among foot. -/
def SheetAt (w : World) (base : Nat) (foot : Nat → Prop) (sb : Nat) (cur : Frm) (ar : List Frm) : Prop :=
  ∃ (bv av : Value) (bvs : List Value), Blk w sb 174 #[.int .i64 cur.tag.cls, .int .i64 cur.tag.num, .bool cur.tag.made, .bool cur.set, bv, av, .int .i64 0] ∧ foot sb ∧ w.ownsRow base 5 1 bv cur.b.length (Lib.byteCells cur.b) ∧
    bvs.length = ar.length ∧ w.ownsRow base 171 5 av ar.length (List.zipWith frmCells ar bvs).flatten ∧ (∀ (i : Nat) (b : Value) (f : Frm), bvs[i]? = some b → ar[i]? = some f → w.ownsRow base 5 1 b f.b.length (Lib.byteCells f.b)) ∧
    (∀ k, bv.ownBlock = some k → k ≠ sb ∧ foot k) ∧ (∀ k, av.ownBlock = some k → k ≠ sb ∧ bv.ownBlock ≠ some k ∧ foot k) ∧ (∀ b ∈ bvs, ∀ k, b.ownBlock = some k → k ≠ sb ∧ bv.ownBlock ≠ some k ∧ av.ownBlock ≠ some k ∧ foot k) ∧ bvs.Pairwise (fun b b' => ∀ k, b.ownBlock = some k → b'.ownBlock ≠ some k)
theorem SheetAt.fr {w w' : World} {base sb : Nat} {foot S : Nat → Prop} {cur : Frm} {ar : List Frm} (h : SheetAt w base foot sb cur ar) (f : Fr S w w') (hS : ∀ k, foot k → ¬ S k) : SheetAt w' base foot sb cur ar := by
  obtain ⟨bv, av, bvs, B, h0, h1, h2, h3, h4, h5, h6, h7, h8⟩ := h
  exact ⟨bv, av, bvs, B.fr f (hS sb h0), h0, ownsRow_fr h1 f (fun k hk => hS k (h5 k hk).2), h2, ownsRow_fr h3 f (fun k hk => hS k (h6 k hk).2.2), fun i b g hb hg => ownsRow_fr (h4 i b g hb hg) f (fun k hk => hS k (h7 b (List.mem_of_getElem? hb) k hk).2.2.2), h5, h6, h7, h8⟩
theorem SheetAt.old {w w' : World} {base sb : Nat} {foot : Nat → Prop} {cur : Frm} {ar : List Frm} (h : SheetAt w base foot sb cur ar) (f : Fr (fun _ => False) w w') : SheetAt w' base foot sb cur ar := h.fr f (fun _ _ h => h)
theorem SheetAt.lt {w : World} {base sb : Nat} {foot : Nat → Prop} {cur : Frm} {ar : List Frm} (h : SheetAt w base foot sb cur ar) : sb < w.heap.size := by
  obtain ⟨bv, av, bvs, B, -⟩ := h
  exact B.lt

theorem sheetNew_any (w : World) :
    Calls Tryz.prog 71 #[] w fun e w' => e = .returned (pt w.heap.size) ∧ SheetAt w' w.heap.size (fun k => k = w.heap.size) w.heap.size ⟨⟨0, 0, false⟩, false, []⟩ [] ∧ Fr (fun _ => False) w w' := by
  go_enter Tryz.func71, Tryz.ntmps71
  go_wp2_with fail
  go_ret
  refine ⟨rfl, ⟨.slice none 0 0, .slice none 0 0, [], Blk.new w _ _, rfl, ⟨rfl, .inl ⟨rfl, rfl⟩⟩, rfl, ⟨rfl, .inl ⟨rfl, rfl⟩⟩, (fun i b f h => by simp at h), (fun k h => by cases h), (fun k h => by cases h), (fun b h => by simp at h), List.Pairwise.nil⟩, (Fr.refl w).alloc _⟩

/-- Bytes behind. -/
def Frm.more (f : Frm) (l : List UInt8) : Frm := ⟨f.tag, f.set, f.b ++ l⟩
theorem sheetAdd_any (sb base : Nat) (foot : Nat → Prop) (cur : Frm) (ar : List Frm) (u : Value) (ys : List UInt8) (w : World) (h : SheetAt w base foot sb cur ar) (hu : Bytes w u ys) (hb : base ≤ w.heap.size) (hn : cur.b.length + ys.length ≤ 100000000) :
    Calls Tryz.prog 107 #[pt sb, u] w fun e w' => e = .returned (.tuple #[]) ∧ SheetAt w' base (fun k => foot k ∨ w.heap.size ≤ k) sb (cur.more ys) ar ∧ Fr foot w w' := by
  have hlt := h.lt
  obtain ⟨bv, av, bvs, B, h0, h1, h2, h3, h4, h5, h6, h7, h8⟩ := h
  have hlk := (Vals.of_own h1).2
  refine (frameAdd_any sb _ _ _ _ _ _ _ bv u base cur.b.length cur.b ys w B h1 hu hb (fun k hk => (h5 k hk).1) hn).mono fun e w' ⟨he, v, B2, ho, hv, F⟩ => ⟨he, ⟨v, av, bvs, B2, .inl h0, ?_, h2, ?_, fun i b g hg1 hg2 => ?_, fun k hk => ?_, fun k hk => ?_, fun b hbm k hk => ?_, h8⟩, F.mono (fun k _ hk => ?_)⟩
  · show w'.ownsRow base 5 1 v (cur.b ++ ys).length (Lib.byteCells (cur.b ++ ys))
    rw [List.length_append]
    exact ho
  · exact ownsRow_fr h3 F (fun k hk e => by
      rcases e with e | e
      · exact (h6 k hk).1 e
      · exact (h6 k hk).2.1 e)
  · exact ownsRow_fr (h4 i b g hg1 hg2) F (fun k hk e => by
      have := h7 b (List.mem_of_getElem? hg1) k hk
      rcases e with e | e
      · exact this.1 e
      · exact this.2.1 e)
  · rcases hv k hk with h | h
    · exact ⟨(h5 k h).1, .inl (h5 k h).2⟩
    · exact ⟨by omega, .inr h⟩
  · refine ⟨(h6 k hk).1, fun e => ?_, .inl (h6 k hk).2.2⟩
    rcases hv k e with h | h
    · exact (h6 k hk).2.1 h
    · have := h3.lt k hk
      omega
  · have := h7 b hbm k hk
    refine ⟨this.1, fun e => ?_, this.2.2.1, .inl this.2.2.2⟩
    rcases hv k e with h | h
    · exact this.2.1 h
    · obtain ⟨i, hi⟩ := List.mem_iff_getElem?.1 hbm
      have hil : i < ar.length := by have := (List.getElem?_eq_some_iff.1 hi).1; omega
      have := (h4 i b _ hi (List.getElem?_eq_getElem hil)).lt k hk
      omega
  · rcases hk with hk | hk
    · subst hk; exact h0
    · exact (h5 k hk).2

set_option maxRecDepth 20000 in
set_option maxHeartbeats 2000000 in
theorem sheetPut_any (sb base : Nat) (foot : Nat → Prop) (cur : Frm) (ar : List Frm) (u : Value) (ls : List (List UInt8)) (w : World) (h : SheetAt w base foot sb cur ar) (hu : Kept (fun W => Parts W u ls) foot w) (hb : base ≤ w.heap.size) (hn : cur.b.length + ls.flatten.length ≤ 100000000) (hln : ls.length ≤ 1000000) :
    Calls Tryz.prog 75 #[pt sb, u] w fun e w' => e = .returned (.tuple #[]) ∧ SheetAt w' base (fun k => foot k ∨ w.heap.size ≤ k) sb (cur.more ls.flatten) ar ∧ Fr foot w w' := by
  have H := Lib.hid h
  have HU := Lib.hid hu
  obtain ⟨a, cap, rfl, -⟩ := hu.now.form
  obtain ⟨bv, av, bvs, B, h0, -⟩ := h
  have e6 := B.cell 6
  simp at e6
  clear B hu h0
  go_enter Tryz.func75, Tryz.ntmps75
  go_wp2_with fail
  refine (off_no sb w e6).mono ?_
  rintro e w0 ⟨rfl, rfl⟩
  clear e6
  go_wp2_with fail
  go_loopg [10] ls.length (fun g ii wr => ∃ j : Nat, g = ls.length - j ∧ j ≤ ls.length ∧ ii = .int .i64 j ∧ SheetAt wr base (fun k => foot k ∨ w.heap.size ≤ k) sb (cur.more (ls.take j).flatten) ar ∧ Fr foot w wr)
  case atStart =>
    obtain ⟨bv, av, bvs, B, h0, h1, h2, h3, h4, h5, h6, h7, h8⟩ := H.out
    refine ⟨0, rfl, Nat.zero_le _, rfl, ⟨bv, av, bvs, B, .inl h0, ?_, h2, h3, h4, fun k hk => ⟨(h5 k hk).1, .inl (h5 k hk).2⟩, fun k hk => ⟨(h6 k hk).1, (h6 k hk).2.1, .inl (h6 k hk).2.2⟩, fun b hb k hk => ⟨(h7 b hb k hk).1, (h7 b hb k hk).2.1, (h7 b hb k hk).2.2.1, .inl (h7 b hb k hk).2.2.2⟩, h8⟩, Fr.refl _⟩
    simpa [Frm.more] using h1
  case round =>
    obtain ⟨j, hg, hj, rfl, hS, F⟩ := hrel
    have HG := Lib.hid hg
    have HS := Lib.hid hS
    have HF := Lib.hid F
    clear hg hS F
    by_cases hjl : j < ls.length
    · have q1 : (j : Int) < (ls.length : Int) := by omega
      have hP := HU.out wr HF.out
      obtain ⟨_, _, he, hx⟩ := hP.form
      simp only [Value.slice.injEq, true_and] at he
      obtain ⟨rfl, rfl⟩ := he
      obtain ⟨b, off, rfl, hy⟩ := hx (by omega)
      obtain ⟨l, hl⟩ : ∃ l, ls[j]? = some l := ⟨_, List.getElem?_eq_getElem hjl⟩
      obtain ⟨pl, cl, e1, hbl⟩ := hy j l hl
      have hft := flat_take hl
      have hfl := flat_le ls (j + 1)
      rw [hft, List.length_append] at hfl
      have HA := Lib.hid (sheetAdd_any sb base _ _ ar _ l wr HS.out hbl (Nat.le_trans hb HF.out.size) (by
        show (cur.b ++ (ls.take j).flatten).length + l.length ≤ 100000000
        rw [List.length_append]; omega))
      have HFT := Lib.hid hft
      have s0 : (0 : Int) ≤ (j : Int) := by omega
      have hlt := HS.out.lt
      have hs0 := HF.out.size
      clear hP hx hy hl hbl hft hfl
      go_wp2_with fail
      refine HA.out.mono ?_
      rintro e w1 ⟨rfl, S1, F1⟩
      have HF1 := Lib.hid (HF.out.trans' F1 (fun k hk e => by
        rcases e with e | e
        · exact e
        · omega))
      have S2 : SheetAt w1 base (fun k => foot k ∨ w.heap.size ≤ k) sb (cur.more (ls.take (j + 1)).flatten) ar := by
        obtain ⟨bv, av, bvs, B, h0, h1, h2, h3, h4, h5, h6, h7, h8⟩ := S1
        have hw : ∀ k, ((foot k ∨ w.heap.size ≤ k) ∨ wr.heap.size ≤ k) → (foot k ∨ w.heap.size ≤ k) := fun k hk => by
          rcases hk with h | h
          · exact h
          · exact .inr (by omega)
        have hm : (cur.more (ls.take j).flatten).more l = cur.more (ls.take (j + 1)).flatten := by
          rw [HFT.out]
          simp [Frm.more]
        rw [← hm]
        exact ⟨bv, av, bvs, B, hw _ h0, h1, h2, h3, h4, fun k hk => ⟨(h5 k hk).1, hw k (h5 k hk).2⟩, fun k hk => ⟨(h6 k hk).1, (h6 k hk).2.1, hw k (h6 k hk).2.2⟩, fun b hb k hk => ⟨(h7 b hb k hk).1, (h7 b hb k hk).2.1, (h7 b hb k hk).2.2.1, hw k (h7 b hb k hk).2.2.2⟩, h8⟩
      have HS2 := Lib.hid S2
      clear S1 F1 HA S2
      go_wp2_with fail
      go_roundg (ls.length - (j + 1))
      case measure => rw [HG.out]; omega
      case rel => exact ⟨j + 1, rfl, by omega, by go_num, HS2.out, HF1.out⟩
    · obtain rfl : j = ls.length := by omega
      have q1 : ¬ (ls.length : Int) < (ls.length : Int) := by omega
      have hS := HS.out
      rw [List.take_length] at hS
      go_wp2_with fail
      go_end0
      exact ⟨rfl, hS, HF.out⟩
end Go.Proofs.YtgffhiopbnkjbaaGreatDoor

namespace Go.Proofs.YtgffhiopbnkjbaaGreatDoor
open Go Go.RowKit Go.Q
set_option linter.unusedSimpArgs false

set_option maxRecDepth 20000 in
theorem sheetFail_no (sb base : Nat) (foot : Nat → Prop) (cur : Frm) (ar : List Frm) (w : World) (h : SheetAt w base foot sb cur ar) :
    Calls Tryz.prog 74 #[pt sb, .int .i64 0] w fun e w' => e = .returned (.tuple #[]) ∧ SheetAt w' base foot sb cur ar ∧ Fr foot w w' := by
  have hlt := h.lt
  obtain ⟨bv, av, bvs, B, h0, h1, h2, h3, h4, h5, h6, h7, h8⟩ := h
  have e6 := B.cell 6
  have f6 := B.frozen 6
  simp at e6
  have B2 : Blk (w.setCell ⟨sb, 6, none⟩ (.int .i64 0)) sb 174 #[.int .i64 cur.tag.cls, .int .i64 cur.tag.num, .bool cur.tag.made, .bool cur.set, bv, av, .int .i64 0] := by
    have := B.set 6 (.int .i64 0)
    simpa using this
  have F2 : Fr (fun k => k = sb) w (w.setCell ⟨sb, 6, none⟩ (.int .i64 0)) := Fr.setCell (S := fun k => k = sb) (p := ⟨sb, 6, none⟩) (Fr.refl w) (fun _ => rfl) _
  have HB := Lib.hid B2
  have HF := Lib.hid F2
  have HH := Lib.hid (show SheetAt (w.setCell ⟨sb, 6, none⟩ (.int .i64 0)) base foot sb cur ar from ⟨bv, av, bvs, B2, h0, ownsRow_fr h1 F2 (fun k hk => (h5 k hk).1), h2, ownsRow_fr h3 F2 (fun k hk => (h6 k hk).1), fun i b g hb hg => ownsRow_fr (h4 i b g hb hg) F2 (fun k hk => (h7 b (List.mem_of_getElem? hb) k hk).1), h5, h6, h7, h8⟩)
  clear B B2 F2 h1 h2 h3 h4 h5 h6 h7 h8
  go_enter Tryz.func74, Tryz.ntmps74
  go_wp2_with fail
  refine (off_no sb w e6).mono ?_
  rintro e w0 ⟨rfl, rfl⟩
  go_wp2_with fail
  go_end0
  exact ⟨rfl, HH.out, HF.out.mono (fun k _ hk => by rw [hk]; exact h0)⟩

theorem set5of7 {w : World} {z : Nat} {t : TypeId} {a0 a1 a2 a3 a4 a5 a6 : Value} (B : Blk w z t #[a0, a1, a2, a3, a4, a5, a6]) (v0 v1 v2 v3 v4 : Value) :
    Blk (((((w.setCell ⟨z, 0, none⟩ v0).setCell ⟨z, 1, none⟩ v1).setCell ⟨z, 2, none⟩ v2).setCell ⟨z, 3, none⟩ v3).setCell ⟨z, 4, none⟩ v4) z t #[v0, v1, v2, v3, v4, a5, a6] ∧ Fr (fun k => k = z) w (((((w.setCell ⟨z, 0, none⟩ v0).setCell ⟨z, 1, none⟩ v1).setCell ⟨z, 2, none⟩ v2).setCell ⟨z, 3, none⟩ v3).setCell ⟨z, 4, none⟩ v4) := by
  have G : ∀ {w' : World}, Fr (fun k => k = z) w w' → ∀ (i : Nat) (v : Value), Fr (fun k => k = z) w (w'.setCell ⟨z, i, none⟩ v) := fun f i v => Fr.setCell (S := fun k => k = z) (p := ⟨z, i, none⟩) f (fun _ => rfl) v
  refine ⟨?_, G (G (G (G (G (Fr.refl w) _ _) _ _) _ _) _ _) _ _⟩
  have := ((((B.set 0 v0).set 1 v1).set 2 v2).set 3 v3).set 4 v4
  simpa using this
theorem setAt5 {w : World} {z : Nat} {t : TypeId} {a0 a1 a2 a3 a4 a5 a6 : Value} (B : Blk w z t #[a0, a1, a2, a3, a4, a5, a6]) (v : Value) : Blk (w.setCell ⟨z, 5, none⟩ v) z t #[a0, a1, a2, a3, a4, v, a6] ∧ Fr (fun k => k = z) w (w.setCell ⟨z, 5, none⟩ v) :=
  ⟨by have := B.set 5 v; simpa using this, Fr.setCell (S := fun k => k = z) (p := ⟨z, 5, none⟩) (Fr.refl w) (fun _ => rfl) _⟩
theorem frm_one (f : Frm) {bv : Value} (h : bv.oneCell' = true) : ∀ u ∈ frmCells f bv, u.oneCell' = true := fun u hu => by
  simp only [frmCells, List.mem_cons, List.not_mem_nil, or_false] at hu
  rcases hu with rfl | rfl | rfl | rfl | rfl <;> first | rfl | exact h

set_option maxRecDepth 20000 in
set_option maxHeartbeats 2000000 in
theorem sheetOpen1_any (sb base : Nat) (foot : Nat → Prop) (cur : Frm) (ar : List Frm) (T : Tag) (st : Bool) (w : World) (h : SheetAt w base foot sb cur ar) (hb : base ≤ w.heap.size) (har : ar.length ≤ 1000) :
    Calls Tryz.prog 105 #[pt sb, .agg #[.int .i64 T.cls, .int .i64 T.num, .bool T.made, .bool st, .slice none 0 0]] w fun e w' => e = .returned (.tuple #[]) ∧ SheetAt w' base (fun k => foot k ∨ w.heap.size ≤ k) sb ⟨T, st, []⟩ (ar ++ [cur]) ∧ Fr foot w w' := by
  have hlt := h.lt
  have F0 : Fr (fun _ => False) w (w.alloc (.cells #[.int .i64 T.cls, .int .i64 T.num, .bool T.made, .bool st, .slice none 0 0] 171)) := (Fr.refl w).alloc _
  obtain ⟨bv, av, bvs, B, h0, h1, h2, h3, h4, h5, h6, h7, h8⟩ := h
  have hav : ∀ k, av.ownBlock = some k → k < w.heap.size := fun k hk => (h3.lt k hk).2
  have hbvl : ∀ k, bv.ownBlock = some k → k < w.heap.size := fun k hk => (h1.lt k hk).2
  have HBL := Lib.hid hbvl
  have HAV := Lib.hid hav
  replace B := B.fr F0 (fun h => h)
  replace h1 := ownsRow_fr h1 F0 (fun _ _ h => h)
  replace h3 := ownsRow_fr h3 F0 (fun _ _ h => h)
  replace h4 : ∀ (i : Nat) (b : Value) (f : Frm), bvs[i]? = some b → ar[i]? = some f → _ := fun i b f hb hf => ownsRow_fr (h4 i b f hb hf) F0 (fun _ _ h => h)
  have BF := Blk.new w 171 #[.int .i64 T.cls, .int .i64 T.num, .bool T.made, .bool st, .slice none 0 0]
  obtain ⟨z, hz⟩ : ∃ z, z = w.heap.size := ⟨_, rfl⟩
  rw [← hz] at BF
  have HZ := Lib.hid hz
  have hzs : z ≠ sb := by omega
  clear hz hav hbvl
  go_enter Tryz.func105, Tryz.ntmps105
  go_upto_region 1 with fail
  rw [← HZ.out]
  generalize (w.alloc (.cells #[.int .i64 T.cls, .int .i64 T.num, .bool T.made, .bool st, .slice none 0 0] 171)) = w0 at *
  have e6 := B.cell 6
  simp at e6
  obtain ⟨abv, nbv, cbv, rfl, hnbv⟩ := own_shape h1
  obtain ⟨aav, nav, cav, rfl, hnav⟩ := own_shape h3
  obtain ⟨cells, hcells⟩ : ∃ cells, cells = frmCells cur (.slice abv nbv cbv) := ⟨_, rfl⟩
  obtain ⟨wa, hwa⟩ : ∃ wa, wa = w0.drew.alloc (.cells cells.toArray 171) := ⟨_, rfl⟩
  have Fa : Fr (fun _ => False) w0 wa := by rw [hwa]; exact (Fr.refl w0).drew.alloc _
  have hbw := F0.size
  obtain ⟨a7, c7, w7, hrun, ho7, F7, hv7⟩ := add_gen Tryz.underlying172 info171 rfl (by decide) (by decide) h3 (Nat.le_trans hb hbw) Fa w0.heap.size cells (by rw [hcells]; rfl) (by rw [hwa]; exact Blk.new w0.drew _ _) (by rw [hcells]; exact frm_one cur rfl) (by omega)
  have B7 := B.fr F7 (fun e => (h6 sb e).1 rfl)
  have HS0 := Lib.hid B.cell
  have HSA := Lib.hid (B.alloc (.cells #[.int .i64 cur.tag.cls, .int .i64 cur.tag.num, .bool cur.tag.made, .bool cur.set, .slice abv nbv cbv] 171)).cell
  have HCa := Lib.hid (B.fr Fa (fun h => h)).cell
  have HC7 := Lib.hid B7.cell
  have HZ7 := Lib.hid B7.frozen
  have HB7 := Lib.hid B7
  have HF7 := Lib.hid F7
  have HO7 := Lib.hid ho7
  have HV7 := Lib.hid hv7
  have HCL := Lib.hid hcells
  have HBF := Lib.hid BF
  have H1 := Lib.hid h1
  have H3 := Lib.hid h3
  have H4 := Lib.hid h4
  have H5 := Lib.hid h5
  have H6 := Lib.hid h6
  have H7 := Lib.hid h7
  have H8 := Lib.hid h8
  have HN := Lib.hid hnbv
  have HNA := Lib.hid hnav
  rw [hwa, hcells] at hrun
  rw [hwa] at HCa
  rw [hcells] at HCa
  have HRUN := Lib.hid hrun
  clear hrun ho7 F7 hv7 B7 B BF Fa hwa hcells h1 h3 h4 h5 h6 h7 h8 hnbv hnav
  go_wp2_with fail
  refine (off_no sb w0 e6).mono ?_
  rintro e w0' ⟨rfl, rfl⟩
  go_upto_region 2 with fail
  have S0 := HS0.out
  have Sa := HSA.out
  have S7 := HC7.out
  have Z7 := HZ7.out
  go_region_law (first
    | (refine step_append_run (by rfl) (.tmp 10) (.tmp 15) 172 (by rfl) _ w7 (by exact HRUN.out) ?_)
    | fail)
  all_goals
    obtain ⟨B8, F8⟩ := setAt5 HB7.out (.slice a7 (ar.length + 1) c7)
    have G8 := (HF7.out.mono (T := fun k => k = sb ∨ (Value.slice aav nav cav).ownBlock = some k) (fun _ _ h => .inr h)).trans (F8.mono (fun _ _ h => .inl h))
    have BF8 := (HBF.out.fr G8 (fun e => by
      rcases e with e | e
      · exact hzs e
      · have := HAV.out z e
        have := HZ.out
        omega))
    generalize (w7.setCell ⟨sb, 5, none⟩ (.slice a7 (ar.length + 1) c7)) = w8 at *
    have SB := B8.cell
    have ZB := B8.frozen
    have SF := BF8.cell
    clear S0 Sa S7 Z7
    go_wp2_with fail
    obtain ⟨B9, F9⟩ := set5of7 B8 (.int .i64 T.cls) (.int .i64 T.num) (.bool T.made) (.bool st) (.slice none 0 0)
    generalize (((((w8.setCell ⟨sb, 0, none⟩ (.int .i64 T.cls)).setCell ⟨sb, 1, none⟩ (.int .i64 T.num)).setCell ⟨sb, 2, none⟩ (.bool T.made)).setCell ⟨sb, 3, none⟩ (.bool st)).setCell ⟨sb, 4, none⟩ (.slice none 0 0)) = w9 at *
    have G9 : Fr (fun k => k = sb ∨ (Value.slice aav nav cav).ownBlock = some k) w0 w9 := G8.trans (F9.mono (fun _ _ h => .inl h))
    have h1 := H1.out
    have h3 := H3.out
    have h4 := H4.out
    have h5 := H5.out
    have h6 := H6.out
    have h7 := H7.out
    have hv := HV7.out
    have hlt7 : ∀ k, (Value.slice a7 (ar.length + 1) c7).ownBlock = some k → k ≠ sb := fun k hk => by
      rcases hv k hk with h | h
      · exact (h6 k h).1
      · omega
    have hbl : ∀ (i : Nat) (b : Value) (f : Frm), bvs[i]? = some b → ar[i]? = some f → w9.ownsRow base 5 1 b f.b.length (Lib.byteCells f.b) := fun i b f hb hf => ownsRow_fr (h4 i b f hb hf) G9 (fun k hk e => by
      have := h7 b (List.mem_of_getElem? hb) k hk
      rcases e with e | e
      · exact this.1 e
      · exact this.2.2.1 e)
    have hbv9 := ownsRow_fr h1 G9 (fun k hk e => by
      rcases e with e | e
      · exact (h5 k hk).1 e
      · exact (h6 k e).2.1 hk)
    have hav9 := ownsRow_fr (ownsRow_fr HO7.out F8 (fun k hk e => hlt7 k hk e)) F9 (fun k hk e => hlt7 k hk e)
    have hbw2 : w.heap.size ≤ w0.heap.size := hbw
    go_end0
    refine ⟨rfl, ⟨.slice none 0 0, .slice a7 (ar.length + 1) c7, bvs ++ [.slice abv nbv cbv], B9, .inl h0, ⟨rfl, .inl ⟨rfl, rfl⟩⟩, by rw [List.length_append, List.length_append, h2]; rfl, ?_, fun i b f hb hf => ?_, (fun k hk => by cases hk), fun k hk => ⟨hlt7 k hk, by simp [Value.ownBlock], ?_⟩, fun b hb k hk => ?_, ?_⟩, (F0.mono (fun _ _ h => h.elim)).trans (G9.trans' (Fr.refl w9) (fun _ _ h => h) |>.mono (fun k _ hk => ?_))⟩
    · rw [List.length_append, List.zipWith_append h2.symm, List.flatten_append]
      have := hav9
      rw [HCL.out] at this
      simpa using this
    · rcases Nat.lt_or_ge i bvs.length with hi | hi
      · rw [List.getElem?_append_left hi] at hb
        rw [List.getElem?_append_left (by omega)] at hf
        exact hbl i b f hb hf
      · have hi2 : i = bvs.length := by
          have := (List.getElem?_eq_some_iff.1 hb).1
          simp at this
          omega
        subst hi2
        rw [List.getElem?_append_right (Nat.le_refl _)] at hb
        rw [List.getElem?_append_right (by omega)] at hf
        simp at hb
        simp [h2] at hf
        subst hb; subst hf
        exact hbv9
    · rcases hv k hk with h | h
      · exact .inl (h6 k h).2.2
      · exact .inr (by omega)
    · rcases List.mem_append.1 hb with hm | hm
      · have := h7 b hm k hk
        refine ⟨this.1, by simp [Value.ownBlock], fun e => ?_, .inl this.2.2.2⟩
        rcases hv k e with h | h
        · exact this.2.2.1 h
        · obtain ⟨i, hi⟩ := List.mem_iff_getElem?.1 hm
          have hil : i < ar.length := by have := (List.getElem?_eq_some_iff.1 hi).1; omega
          have := (h4 i b _ hi (List.getElem?_eq_getElem hil)).lt k hk
          omega
      · rw [List.mem_singleton.1 hm] at hk
        refine ⟨(h5 k hk).1, by simp [Value.ownBlock], fun e => ?_, .inl (h5 k hk).2⟩
        rcases hv k e with h | h
        · exact (h6 k h).2.1 hk
        · have := HBL.out k hk
          omega
    · rw [List.pairwise_append]
      refine ⟨H8.out, List.pairwise_singleton _ _, fun b hb b' hb' k hk => ?_⟩
      rw [List.mem_singleton.1 hb']
      exact (h7 b hb k hk).2.1
    · rcases hk with hk | hk
      · rw [hk]; exact h0
      · exact (h6 k hk).2.2
end Go.Proofs.YtgffhiopbnkjbaaGreatDoor

namespace Go.Proofs.YtgffhiopbnkjbaaGreatDoor
open Go Go.RowKit Go.Q
set_option linter.unusedSimpArgs false

set_option maxRecDepth 20000 in
theorem sheetOpen_any (sb base : Nat) (foot : Nat → Prop) (cur : Frm) (ar : List Frm) (T : Tag) (w : World) (h : SheetAt w base foot sb cur ar) (hb : base ≤ w.heap.size) (har : ar.length ≤ 1000) :
    Calls Tryz.prog 72 #[pt sb, tagV T] w fun e w' => e = .returned (.tuple #[]) ∧ SheetAt w' base (fun k => foot k ∨ w.heap.size ≤ k) sb ⟨T, false, []⟩ (ar ++ [cur]) ∧ Fr foot w w' := by
  have F0 : Fr (fun _ => False) w (w.alloc (.cells #[.int .i64 T.cls, .int .i64 T.num, .bool T.made] 130)) := (Fr.refl w).alloc _
  have BT := Blk.new w 130 #[.int .i64 T.cls, .int .i64 T.num, .bool T.made]
  have hs := F0.size
  have HO := Lib.hid (sheetOpen1_any sb base foot cur ar T false _ (h.old F0) (Nat.le_trans hb hs) har)
  have HF := Lib.hid F0
  obtain ⟨z, hz⟩ : ∃ z, z = w.heap.size := ⟨_, rfl⟩
  rw [← hz] at BT
  have HZ := Lib.hid hz
  have ST := BT.cell
  clear h F0 BT hz
  rw [show tagV T = .agg #[.int .i64 T.cls, .int .i64 T.num, .bool T.made] from rfl]
  go_enter Tryz.func72, Tryz.ntmps72
  go_upto_region 1 with fail
  rw [← HZ.out]
  generalize (w.alloc (.cells #[.int .i64 T.cls, .int .i64 T.num, .bool T.made] 130)) = w0 at *
  go_wp2_with fail
  refine HO.out.mono ?_
  rintro e w1 ⟨rfl, S1, F1⟩
  have HS := Lib.hid S1
  have HF1 := Lib.hid ((HF.out.mono (fun _ _ h => h.elim)).trans F1)
  clear S1 F1 HO
  go_wp2_with fail
  go_end0
  obtain ⟨bv, av, bvs, B, h0, h1, h2, h3, h4, h5, h6, h7, h8⟩ := HS.out
  have hw : ∀ k, (foot k ∨ w0.heap.size ≤ k) → (foot k ∨ w.heap.size ≤ k) := fun k hk => by
    rcases hk with h | h
    · exact .inl h
    · exact .inr (Nat.le_trans hs h)
  exact ⟨rfl, ⟨bv, av, bvs, B, hw _ h0, h1, h2, h3, h4, fun k hk => ⟨(h5 k hk).1, hw k (h5 k hk).2⟩, fun k hk => ⟨(h6 k hk).1, (h6 k hk).2.1, hw k (h6 k hk).2.2⟩, fun b hb k hk => ⟨(h7 b hb k hk).1, (h7 b hb k hk).2.1, (h7 b hb k hk).2.2.1, hw k (h7 b hb k hk).2.2.2⟩, h8⟩, HF1.out⟩

set_option maxRecDepth 20000 in
set_option maxHeartbeats 2000000 in
theorem frameWhole_any (sb base : Nat) (foot : Nat → Prop) (T : Tag) (l : List UInt8) (ar : List Frm) (w : World) (h : SheetAt w base foot sb ⟨T, false, l⟩ ar) (hT : tagGood T) (hl : l.length ≤ 16777216) :
    Calls Tryz.prog 108 #[pt sb] w fun e w' => (∃ a c, e = .returned (.tuple #[.slice a (wrapS T l).length c, .int .i64 0]) ∧ w'.ownsRow w.heap.size 5 1 (.slice a (wrapS T l).length c) (wrapS T l).length (Lib.byteCells (wrapS T l))) ∧ Fr (fun _ => False) w w' := by
  obtain ⟨bv, av, bvs, B, h0, h1, -⟩ := h
  have hv := (Vals.of_own h1).1
  simp only at hv
  obtain ⟨ab, cb, rfl, -⟩ := Vals.form hv
  have HV := Lib.hid hv
  have HS0 := Lib.hid B.cell
  have HSA := Lib.hid (B.alloc (.cells #[.slice ab l.length cb] 23)).cell
  have e3 := B.cell 3
  simp at e3
  have HW := Lib.hid (fun w' (F : Fr (fun _ => False) w w') (sl : Value) (hp : Parts w' sl [l]) => wrap_any T hT sl [l] w' hp (by simpa using hl) (by simp))
  rw [show ([l] : List (List UInt8)).flatten = l from by simp] at HW
  have hsl := B.lt
  have HB := Lib.hid B
  clear B hv h1 h0 hT
  obtain ⟨c, n, m⟩ := T
  go_enter Tryz.func108, Tryz.ntmps108
  go_upto_region 2 with fail
  have S0 := HS0.out
  have Sa := HSA.out
  simp only at S0 Sa
  obtain ⟨R, hR⟩ : ∃ R, R = wrapS ⟨c, n, m⟩ l := ⟨_, rfl⟩
  rw [← hR] at HW
  have HR := Lib.hid hR
  have HWC := Lib.hid (HW.out (w.alloc (.cells #[.slice ab l.length cb] 23)).drew ((Fr.refl w).alloc _).drew (.slice (some ⟨w.heap.size, 0, none⟩) 1 1) ((Parts.one HV.out).old (Fr.refl _).drew))
  have FA : Fr (fun _ => False) w (w.alloc (.cells #[.slice ab l.length cb] 23)).drew := ((Fr.refl w).alloc _).drew
  have HFA := Lib.hid FA
  clear hR HW HS0 HSA FA
  go_region_held3 (fun w' => ∀ i, w'.cell? ⟨sb, i, none⟩ = (#[.int .i64 c, .int .i64 n, .bool m, .bool false, .slice ab l.length cb, av, .int .i64 0] : Array Value)[i]?) (first | exact S0 | exact Sa | exact (fun i => (HB.out.fr (HFA.out.trans F2) (fun h => h)).cell i)) (first
    | (go_at_call 117; refine HWC.out.mono ?_; rintro e w2 ⟨v2, rfl, hown, F2⟩; obtain ⟨a2, m2, c2, rfl, rfl⟩ := own_shape hown))
  all_goals
    have HO := Lib.hid (own_le hown HFA.out.size)
    have HF2 := Lib.hid (HFA.out.trans F2)
    clear hown F2 HWC HFA S0 Sa
    go_wp2_with fail
    refine bodyPost_ret (v := .tuple #[.slice a2 R.length c2, .int .i64 0]) (by simp [results, Tryz.results108, go_sem]) rfl ⟨?_, HF2.out⟩
    rw [← HR.out]
    exact ⟨a2, c2, rfl, HO.out⟩

set_option maxRecDepth 20000 in
theorem sheetBytes_any (sb base : Nat) (foot : Nat → Prop) (cur : Frm) (w : World) (h : SheetAt w base foot sb cur []) (hl : cur.b.length ≤ 100000000) :
    Calls Tryz.prog 77 #[pt sb] w fun e w' => (∃ a c, e = .returned (.tuple #[.slice a cur.b.length c, .int .i64 0]) ∧ w'.ownsRow w.heap.size 5 1 (.slice a cur.b.length c) cur.b.length (Lib.byteCells cur.b)) ∧ Fr (fun _ => False) w w' := by
  obtain ⟨bv, av, bvs, B, h0, h1, h2, h3, -⟩ := h
  obtain ⟨aav, nav, cav, rfl, hnav⟩ := own_shape h3
  simp only [List.length_nil] at hnav
  subst hnav
  have hv := (Vals.of_own h1).1
  have HC := Lib.hid (cloneByte_any bv cur.b w hv (by omega))
  obtain ⟨ab, cb, rfl, -⟩ := Vals.form hv
  have e4 := B.cell 4
  have e5 := B.cell 5
  have e6 := B.cell 6
  simp at e4 e5 e6
  clear B hv h0 h1 h2 h3
  go_enter Tryz.func77, Tryz.ntmps77
  go_wp2_with fail
  refine HC.out.mono ?_
  rintro e w1 ⟨⟨u, rfl, hown⟩, F1⟩
  obtain ⟨a1, m1, c1, rfl, rfl⟩ := own_shape hown
  have HO := Lib.hid hown
  clear hown HC
  go_wp2_with fail
  exact bodyPost_ret (v := .tuple #[.slice a1 cur.b.length c1, .int .i64 0]) (by simp [results, Tryz.results77, go_sem]) rfl ⟨⟨a1, c1, rfl, HO.out⟩, F1⟩
end Go.Proofs.YtgffhiopbnkjbaaGreatDoor

namespace Go.Proofs.YtgffhiopbnkjbaaGreatDoor
open Go Go.RowKit Go.Q
set_option linter.unusedSimpArgs false

/-- The front of a row of one's own. -/
theorem own_front {w : World} {base n sz : Nat} {t : TypeId} {a : Option Addr} {m c : Nat} {xs : List Value} (h : w.ownsRow base t sz (.slice a m c) n xs) (k : Nat) (hk : k ≤ n) : w.ownsRow base t sz (.slice a k c) k (xs.take (k * sz)) := by
  obtain ⟨h1, h2⟩ := h
  refine ⟨by rw [List.length_take, h1]; exact Nat.min_eq_left (Nat.mul_le_mul_right sz hk), ?_⟩
  rcases h2 with ⟨he, h0⟩ | ⟨g, cap, cur, he, hg, hh, hnc, hcm, hcs, htk⟩
  · simp only [Value.slice.injEq] at he
    obtain ⟨rfl, rfl, rfl⟩ := he
    obtain rfl : k = 0 := by omega
    exact .inl ⟨rfl, rfl⟩
  · simp only [Value.slice.injEq] at he
    obtain ⟨rfl, rfl, rfl⟩ := he
    refine .inr ⟨g, _, cur, rfl, hg, hh, by omega, hcm, hcs, ?_⟩
    rw [← htk, List.take_take, Nat.min_eq_left (Nat.mul_le_mul_right sz hk)]
/-- The cells of a frame of a row. -/
theorem zip_frm : ∀ (ar : List Frm) (bvs : List Value) (i : Nat) (f : Frm) (b : Value), ar[i]? = some f → bvs[i]? = some b → ∀ j u, (frmCells f b)[j]? = some u → (List.zipWith frmCells ar bvs).flatten[5 * i + j]? = some u
  | [], _, i, f, b, h, _, _, _, _ => by simp at h
  | _ :: _, [], i, f, b, _, h, _, _, _ => by simp at h
  | x :: ar, y :: bvs, 0, f, b, h1, h2, j, u, hu => by
    simp only [List.getElem?_cons_zero, Option.some.injEq] at h1 h2
    subst h1; subst h2
    simp only [List.zipWith_cons_cons, List.flatten_cons, Nat.mul_zero, Nat.zero_add]
    rw [List.getElem?_append_left (List.getElem?_eq_some_iff.1 hu).1]
    exact hu
  | x :: ar, y :: bvs, i + 1, f, b, h1, h2, j, u, hu => by
    simp only [List.getElem?_cons_succ] at h1 h2
    have := zip_frm ar bvs i f b h1 h2 j u hu
    simp only [List.zipWith_cons_cons, List.flatten_cons]
    rw [List.getElem?_append_right (by simp [frmCells]; omega), show 5 * (i + 1) + j - (frmCells x y).length = 5 * i + j from by simp [frmCells]; omega]
    exact this
theorem zip_take : ∀ (ar : List Frm) (bvs : List Value) (k : Nat), ((List.zipWith frmCells ar bvs).flatten).take (k * 5) = (List.zipWith frmCells (ar.take k) (bvs.take k)).flatten
  | [], _, k => by simp
  | _ :: _, [], k => by simp
  | x :: ar, y :: bvs, 0 => by simp
  | x :: ar, y :: bvs, k + 1 => by
    have := zip_take ar bvs k
    simp only [List.zipWith_cons_cons, List.flatten_cons, List.take_succ_cons]
    rw [List.take_append, List.take_of_length_le (by simp [frmCells]; omega), ← this]
    congr 2
    simp [frmCells]; omega

theorem SheetAt.wide {w : World} {base sb : Nat} {foot foot' : Nat → Prop} {cur : Frm} {ar : List Frm} (h : SheetAt w base foot sb cur ar) (hw : ∀ k, foot k → foot' k) : SheetAt w base foot' sb cur ar := by
  obtain ⟨bv, av, bvs, B, h0, h1, h2, h3, h4, h5, h6, h7, h8⟩ := h
  exact ⟨bv, av, bvs, B, hw _ h0, h1, h2, h3, h4, fun k hk => ⟨(h5 k hk).1, hw k (h5 k hk).2⟩, fun k hk => ⟨(h6 k hk).1, (h6 k hk).2.1, hw k (h6 k hk).2.2⟩, fun b hb k hk => ⟨(h7 b hb k hk).1, (h7 b hb k hk).2.1, (h7 b hb k hk).2.2.1, hw k (h7 b hb k hk).2.2.2⟩, h8⟩
theorem own_cell {w : World} {base n sz : Nat} {t : TypeId} {a : Option Addr} {m c : Nat} {xs : List Value} (h : w.ownsRow base t sz (.slice a m c) n xs) (h0 : 0 < n) : ∃ g, a = some ⟨g, 0, none⟩ ∧ ∀ i u, xs[i]? = some u → w.cell? ⟨g, i, none⟩ = some u := by
  obtain ⟨h1, h2⟩ := h
  rcases h2 with ⟨he, hn⟩ | ⟨g, cap, cur, he, hg, hh, hnc, hcm, hcs, htk⟩
  · omega
  · simp only [Value.slice.injEq] at he
    obtain ⟨rfl, rfl, rfl⟩ := he
    refine ⟨g, rfl, fun i u hu => ?_⟩
    have hil := (List.getElem?_eq_some_iff.1 hu).1
    rw [← htk, List.getElem?_take_of_lt (by omega)] at hu
    simp only [World.cell?, hh]
    simpa using hu

set_option maxRecDepth 20000 in
set_option maxHeartbeats 4000000 in
theorem sheetShut_any (sb base : Nat) (foot : Nat → Prop) (T : Tag) (l : List UInt8) (ar : List Frm) (top : Frm) (w : World) (h : SheetAt w base foot sb ⟨T, false, l⟩ (ar ++ [top])) (hT : tagGood T) (hl : l.length ≤ 16777216) (hb : base ≤ w.heap.size) (har : ar.length ≤ 1000) (htl : top.b.length + (wrapS T l).length ≤ 100000000) :
    Calls Tryz.prog 76 #[pt sb] w fun e w' => e = .returned (.tuple #[]) ∧ SheetAt w' base (fun k => foot k ∨ w.heap.size ≤ k) sb (top.more (wrapS T l)) ar ∧ Fr foot w w' := by
  have HW := Lib.hid (frameWhole_any sb base foot T l (ar ++ [top]) w h hT hl)
  have hlt := h.lt
  obtain ⟨bv, av, bvs, B, h0, h1, h2, h3, h4, h5, h6, h7, h8⟩ := h
  rw [List.length_append, List.length_singleton] at h2 h3
  obtain ⟨aav, nav, cav, rfl, rfl⟩ := own_shape h3
  obtain ⟨tb, htb⟩ : ∃ tb, bvs[ar.length]? = some tb := ⟨_, List.getElem?_eq_getElem (by omega)⟩
  have hat : (ar ++ [top])[ar.length]? = some top := by rw [List.getElem?_append_right (Nat.le_refl _)]; simp
  have htown := h4 _ _ _ htb hat
  obtain ⟨atb, ntb, ctb, rfl, hntb⟩ := own_shape htown
  subst hntb
  obtain ⟨R, hR⟩ : ∃ R, R = wrapS T l := ⟨_, rfl⟩
  rw [← hR] at HW htl ⊢
  have HR := Lib.hid hR
  clear hR
  have e5 := B.cell 5
  have e6 := B.cell 6
  simp at e5 e6
  have hw1 : IntKind.i64.wrap (((ar.length + 1 : Nat) : Int) - 1) = (ar.length : Int) := by simp [IntKind.wrap, IntKind.signed, IntKind.bits]; omega
  have q1 : ¬ (ar.length : Int) < 0 := by omega
  go_enter Tryz.func76, Tryz.ntmps76
  go_wp2_with fail
  refine (off_no sb w e6).mono ?_
  rintro e w0 ⟨rfl, rfl⟩
  go_upto_region 4 with fail
  go_wp2_with fail
  refine HW.out.mono ?_
  rintro e w1 ⟨⟨aR, cR, rfl, hown⟩, F1⟩
  have B1 := B.fr F1 (fun h => h)
  have g1 := ownsRow_fr h1 F1 (fun _ _ h => h)
  have g3 := ownsRow_fr h3 F1 (fun _ _ h => h)
  have gt := ownsRow_fr htown F1 (fun _ _ h => h)
  have c5 := B1.cell 5
  simp at c5
  obtain ⟨g, rfl, hgc⟩ := own_cell g3 (by omega)
  obtain ⟨hcv, hcm⟩ : ar.length + 1 ≤ cav ∧ cav ≤ maxLen := by
    rcases g3.2 with ⟨he, -⟩ | ⟨g', cap, cur, he, -, -, hnc, hcm, -⟩
    · simp at he
    · simp only [Value.slice.injEq] at he
      obtain ⟨-, -, rfl⟩ := he
      exact ⟨hnc, hcm⟩
  have hzf : ∀ j u, (frmCells top (.slice atb top.b.length ctb))[j]? = some u → w1.cell? ⟨g, ar.length * 5 + j, none⟩ = some u := fun j u hu => by
    rw [Nat.mul_comm]
    exact hgc _ _ (zip_frm _ _ _ _ _ hat htb j u hu)
  have k0 : w1.cell? ⟨g, ar.length * 5, none⟩ = _ := hzf 0 _ rfl
  have k1 := hzf 1 _ rfl
  have k2 := hzf 2 _ rfl
  have k3 := hzf 3 _ rfl
  have k4 := hzf 4 _ rfl
  have H := Lib.hid (And.intro h1 (And.intro h3 (And.intro h4 (And.intro h5 (And.intro h6 (And.intro h7 (And.intro h8 (And.intro hat (And.intro htb (And.intro htown (And.intro B (And.intro B1 (And.intro g1 (And.intro g3 (And.intro gt (And.intro hown (And.intro F1 (And.intro hgc (And.intro hT h0)))))))))))))))))))
  clear h1 h3 h4 h5 h6 h7 h8 hat htb htown B B1 g1 g3 gt hown F1 hgc hT h0 HW e5 e6 hzf
  have SB := H.out.2.2.2.2.2.2.2.2.2.2.2.1.cell
  have ZB := H.out.2.2.2.2.2.2.2.2.2.2.2.1.frozen
  go_upto_region 8 with fail
  obtain ⟨B2, F2⟩ := set5of7 H.out.2.2.2.2.2.2.2.2.2.2.2.1 (.int .i64 top.tag.cls) (.int .i64 top.tag.num) (.bool top.tag.made) (.bool top.set) (.slice atb top.b.length ctb)
  generalize (((((w1.setCell ⟨sb, 0, none⟩ (.int .i64 top.tag.cls)).setCell ⟨sb, 1, none⟩ (.int .i64 top.tag.num)).setCell ⟨sb, 2, none⟩ (.bool top.tag.made)).setCell ⟨sb, 3, none⟩ (.bool top.set)).setCell ⟨sb, 4, none⟩ (.slice atb top.b.length ctb)) = w2 at *
  have e5 := B2.cell 5
  simp at e5
  have ZB2 := B2.frozen
  have HB2 := Lib.hid B2
  have HF2 := Lib.hid F2
  clear k0 k1 k2 k3 k4 c5 SB ZB B2 F2
  have s0 : (0 : Int) ≤ (ar.length : Int) := by omega
  have s1 : (ar.length : Int) ≤ (cav : Int) := by omega
  go_upto_region 9 with fail
  obtain ⟨B3, F3⟩ := setAt5 HB2.out (.slice (some ⟨g, 0, none⟩) ar.length cav)
  generalize (w2.setCell ⟨sb, 5, none⟩ (.slice (some ⟨g, 0, none⟩) ar.length cav)) = w3 at *
  obtain ⟨h1, h3, h4, h5, h6, h7, h8, hat, htb, htown, B, B1, g1, g3, gt, hown, F1, hgc, hT, h0⟩ := H.out
  have G3 : Fr (fun k => k = sb) w w3 := (F1.mono (fun _ _ h => h.elim)).trans (HF2.out.trans F3)
  have F13 : Fr (fun k => k = sb) w1 w3 := HF2.out.trans F3
  have g33 := own_front (ownsRow_fr g3 F13 (fun k hk => (h6 k hk).1)) ar.length (by omega)
  rw [zip_take, List.take_left' rfl] at g33
  have hmt : ∀ i b, (bvs.take ar.length)[i]? = some b → bvs[i]? = some b ∧ i < ar.length := fun i b hi => by
    have := (List.getElem?_eq_some_iff.1 hi).1
    rw [List.length_take] at this
    have hil : i < ar.length := by omega
    rw [List.getElem?_take_of_lt hil] at hi
    exact ⟨hi, hil⟩
  have S3 : SheetAt w3 base foot sb top ar := by
    refine ⟨.slice atb top.b.length ctb, .slice (some ⟨g, 0, none⟩) ar.length cav, bvs.take ar.length, B3, h0, ownsRow_fr gt F13 (fun k hk => (h7 _ (List.mem_of_getElem? htb) k hk).1), by rw [List.length_take]; omega, g33, fun i b f hb hf => ?_, fun k hk => ?_, fun k hk => ?_, fun b hb k hk => ?_, ?_⟩
    · obtain ⟨hb', hil⟩ := hmt i b hb
      exact ownsRow_fr (h4 i b f hb' (by rw [List.getElem?_append_left hil]; exact hf)) G3 (fun k hk => (h7 b (List.mem_of_getElem? hb') k hk).1)
    · have := h7 _ (List.mem_of_getElem? htb) k hk
      exact ⟨this.1, this.2.2.2⟩
    · have hk' : (Value.slice (some ⟨g, 0, none⟩) (ar.length + 1) cav).ownBlock = some k := hk
      have := h6 k hk'
      exact ⟨this.1, fun e => (h7 _ (List.mem_of_getElem? htb) k e).2.2.1 hk', this.2.2⟩
    · obtain ⟨i, hi⟩ := List.mem_iff_getElem?.1 hb
      obtain ⟨hb', hil⟩ := hmt i b hi
      have := h7 b (List.mem_of_getElem? hb') k hk
      refine ⟨this.1, fun e => ?_, this.2.2.1, this.2.2.2⟩
      have hp := List.pairwise_iff_getElem.1 h8 i ar.length (List.getElem?_eq_some_iff.1 hb').1 (by omega) hil
      rw [(List.getElem?_eq_some_iff.1 hb').2, (List.getElem?_eq_some_iff.1 htb).2] at hp
      exact hp k hk e
    · exact h8.sublist (List.take_sublist _ _)
  have hs3 := G3.size
  have hs1 := F1.size
  have hR3 := (Vals.of_own (ownsRow_fr hown F13 (fun k hk e => by
    have := (hown.lt k hk).1
    omega))).1
  have HA := Lib.hid (sheetAdd_any sb base foot top ar (.slice aR R.length cR) R w3 S3 hR3 (by omega) htl)
  have HG := Lib.hid G3
  have HR0 := Lib.hid h0
  clear h1 h3 h4 h5 h6 h7 h8 hat htb htown B B1 g1 g3 gt hown F1 hgc hT h0 B3 F3 F13 g33 S3 hR3 G3 hmt H HB2 HF2 e5 ZB2
  go_wp2_with fail
  refine HA.out.mono ?_
  rintro e w4 ⟨rfl, S4, F4⟩
  go_wp2_with fail
  go_end0
  refine ⟨rfl, S4.wide (fun k hk => ?_), (HG.out.mono (fun k _ h => h ▸ HR0.out)).trans F4⟩
  rcases hk with h | h
  · exact .inl h
  · exact .inr (by omega)
end Go.Proofs.YtgffhiopbnkjbaaGreatDoor

namespace Go.Q
open Go Go.RowKit
/-- The wholes of a name's steps. -/
def wholesN (n : List (List Part)) : List (List UInt8) := n.map fun r => rdnWhole ((rdnS r).getD [])
/-- A name's whole. -/
def nameWhole (n : List (List Part)) : List UInt8 := wrapS (tagOf 16) (wholesN n).flatten
end Go.Q
namespace Go.Proofs.YtgffhiopbnkjbaaGreatDoor
open Go Go.RowKit Go.Q
set_option linter.unusedSimpArgs false

theorem SheetAt.now {w : World} {base sb : Nat} {foot : Nat → Prop} {cur : Frm} {ar : List Frm} (h : SheetAt w base foot sb cur ar) : SheetAt w base (fun k => foot k ∧ k < w.heap.size) sb cur ar := by
  have hlt := h.lt
  obtain ⟨bv, av, bvs, B, h0, h1, h2, h3, h4, h5, h6, h7, h8⟩ := h
  refine ⟨bv, av, bvs, B, ⟨h0, hlt⟩, h1, h2, h3, h4, fun k hk => ⟨(h5 k hk).1, (h5 k hk).2, (h1.lt k hk).2⟩, fun k hk => ⟨(h6 k hk).1, (h6 k hk).2.1, (h6 k hk).2.2, (h3.lt k hk).2⟩, fun b hb k hk => ?_, h8⟩
  have := h7 b hb k hk
  refine ⟨this.1, this.2.1, this.2.2.1, this.2.2.2, ?_⟩
  obtain ⟨i, hi⟩ := List.mem_iff_getElem?.1 hb
  have hil : i < ar.length := by have := (List.getElem?_eq_some_iff.1 hi).1; omega
  exact ((h4 i b _ hi (List.getElem?_eq_getElem hil)).lt k hk).2
theorem parts_kept {w : World} {foot : Nat → Prop} {R : List UInt8} {a : Option Addr} {n c base : Nat} (ho : w.ownsRow base 5 1 (.slice a n c) n (Lib.byteCells R)) (hf : ∀ k, foot k → k < base) (hb : base ≤ w.heap.size) : Kept (fun W => Parts W (.slice (some ⟨w.heap.size, 0, none⟩) 1 1) [R]) foot (w.alloc (.cells #[.slice a n c] 23)) := fun W F => by
  have B := (Blk.new w 23 #[.slice a n c]).fr F (fun h => by have := hf _ h; omega)
  have ho2 := ownsRow_fr (ownsRow_fr ho ((Fr.refl w).alloc _) (fun _ _ h => h)) F (fun k hk h => by have := hf _ h; have := (ho.lt k hk).1; omega)
  refine ⟨[.slice a n c], Vals.of_block B (by show 1 ≤ maxLen; decide), rfl, fun i u l hu hl => ?_⟩
  cases i with
  | zero =>
    simp only [List.getElem?_cons_zero, Option.some.injEq] at hu hl
    subst hu; subst hl
    exact (Vals.of_own ho2).1
  | succ i => simp at hu

set_option maxRecDepth 20000 in
set_option maxHeartbeats 4000000 in
theorem nameWrite_ok (v : Value) (n : List (List Part)) (w : World) (h : NameAt w v n) (hf : ∀ r ∈ n, fewB r) (hok : nameOk n = true) (hs : (wholesN n).flatten.length ≤ 16777216) :
    Calls Tryz.prog 38 #[v] w fun e w' => (∃ a c, e = .returned (.tuple #[.slice a (nameWhole n).length c, .int .i64 0]) ∧ w'.ownsRow w.heap.size 5 1 (.slice a (nameWhole n).length c) (nameWhole n).length (Lib.byteCells (nameWhole n))) ∧ Fr (fun _ => False) w w' := by
  have H := Lib.hid h
  have HRI := right_any v n w h hf
  rw [hok] at HRI
  obtain ⟨hn64, hrd⟩ := name_rdns hok
  have HRD := Lib.hid hrd
  have HS := Lib.hid hs
  obtain ⟨a, cap, rfl, hc, hm, -⟩ := h
  clear hok hrd hs
  go_enter Tryz.func38, Tryz.ntmps38
  go_wp2_with fail
  refine HRI.mono ?_
  rintro e w0 ⟨rfl, F0⟩
  have HF0 := Lib.hid F0
  clear F0 HRI
  go_wp2_with fail
  refine (sheetNew_any w0).mono ?_
  rintro e w1 ⟨rfl, S1, F1⟩
  have HS1 := Lib.hid S1
  have HF1 := Lib.hid F1
  clear S1 F1
  go_wp2_with fail
  refine (headOf_any 16 w1).mono ?_
  rintro e w2 ⟨rfl, F2⟩
  have HS2 := Lib.hid (HS1.out.old F2)
  have HF2 := Lib.hid (HF1.out.trans F2)
  have hz2 := HS2.out.lt
  have HO := Lib.hid (sheetOpen_any w0.heap.size w0.heap.size _ _ _ (tagOf 16) w2 HS2.out (by omega) (by simp))
  clear F2 HS1 HF1 HS2
  go_wp2_with fail
  refine HO.out.mono ?_
  rintro e w3 ⟨rfl, S3, F3⟩
  have HS3 := Lib.hid S3.now
  have HF3 := Lib.hid (HF2.out.trans' F3 (fun k hk e => by omega))
  clear S3 F3 HF2 HO
  go_wp2_with fail
  go_loopg [18] n.length (fun g ii wr => ∃ j : Nat, g = n.length - j ∧ j ≤ n.length ∧ ii = .int .i64 j ∧ SheetAt wr w0.heap.size (fun k => w0.heap.size ≤ k ∧ k < wr.heap.size) w0.heap.size ⟨tagOf 16, false, ((wholesN n).take j).flatten⟩ [⟨⟨0, 0, false⟩, false, []⟩] ∧ Fr (fun _ => False) w0 wr)
  case atStart =>
    exact ⟨0, rfl, Nat.zero_le _, rfl, HS3.out.wide (fun k hk => ⟨by rcases hk.1 with h | h <;> omega, hk.2⟩), HF3.out⟩
  case round =>
    obtain ⟨j, hg, hj, rfl, hS, F⟩ := hrel
    have HG := Lib.hid hg
    have HSj := Lib.hid hS
    have HF := Lib.hid F
    have HFF := Lib.hid (HF0.out.trans F)
    clear hg hS HS3 HF3
    by_cases hjl : j < n.length
    · obtain ⟨a0, cap0, he, _, _, hx⟩ := H.out.old HFF.out
      simp only [Value.slice.injEq, true_and] at he
      obtain ⟨rfl, rfl⟩ := he
      obtain ⟨b, off, rfl, hy⟩ := hx (by omega)
      obtain ⟨r, hr⟩ : ∃ r, n[j]? = some r := ⟨_, List.getElem?_eq_getElem hjl⟩
      obtain ⟨x, e1, hA⟩ := hy j r hr
      have hmem := List.mem_of_getElem? hr
      obtain ⟨ws, hws⟩ := Option.isSome_iff_exists.1 (HRD.out r hmem)
      have hwl : (wholesN n)[j]? = some (rdnWhole ws) := by
        unfold wholesN
        rw [List.getElem?_map, hr]
        simp [hws]
      have hft := flat_take hwl
      have hfl := flat_le (wholesN n) (j + 1)
      rw [hft, List.length_append] at hfl
      have hle := HS.out
      have hwr : ws.flatten.length ≤ (rdnWhole ws).length := by
        unfold rdnWhole
        rw [wrap_len]
        omega
      have HW := writeRdn_any x r wr hA (hf r hmem) (fun ws' h' => by rw [hws] at h'; cases h'; omega)
      rw [hws] at HW
      have HWR := Lib.hid HW
      have HFT := Lib.hid hft
      have r1 : (0 : Int) ≤ (j : Int) := by omega
      have r2 : (j : Int) < (n.length : Int) := by omega
      obtain ⟨R, hR⟩ : ∃ R, R = rdnWhole ws := ⟨_, rfl⟩
      rw [← hR] at hfl
      have HR := Lib.hid hR
      clear hx hy hr hA hmem hws hwl hft hwr F HW hR
      go_wp2_with fail
      refine HWR.out.mono ?_
      rintro e w4 ⟨hres, F4⟩
      unfold writeRdnOut at hres
      simp only at hres
      rw [← HR.out] at hres
      obtain ⟨aR, cR, rfl, hown⟩ := hres
      have HS4 := Lib.hid (HSj.out.old F4)
      have HF4 := Lib.hid F4
      have HOW := Lib.hid hown
      clear HWR F4 hown
      go_wp2_with fail
      refine (sheetFail_no _ _ _ _ _ w4 HS4.out).mono ?_
      rintro e w5 ⟨rfl, S5, F5⟩
      have HS5 := Lib.hid S5
      have HF5 := Lib.hid F5
      clear S5 F5 HS4
      have hown5 := ownsRow_fr HOW.out HF5.out (fun k hk e => by
        have := (HOW.out.lt k hk).1
        omega)
      have hz4 := HF4.out.size
      have hz5 := HF5.out.size
      have hz0 := HF.out.size
      have FA : Fr (fun _ => False) w5 (w5.alloc (.cells #[.slice aR R.length cR] 23)) := (Fr.refl w5).alloc _
      have hzA := FA.size
      have HP := Lib.hid (sheetPut_any w0.heap.size w0.heap.size _ _ _ _ [R] _ (HS5.out.old FA) (parts_kept hown5 (fun k hk => hk.2) (by omega)) (by omega) (by
        show ((wholesN n).take j).flatten.length + [R].flatten.length ≤ 100000000
        simp only [List.flatten_cons, List.flatten_nil, List.append_nil]
        omega) (by simp))
      have G5 := Lib.hid ((HF4.out.mono (T := fun k => w0.heap.size ≤ k) (fun _ _ h => h.elim)).trans ((HF5.out.mono (fun _ _ h => h.1)).trans (FA.mono (fun _ _ h => h.elim))))
      clear hown5 FA HS5 HF4 HF5 HOW
      go_wp2_with fail
      refine HP.out.mono ?_
      rintro e w6 ⟨rfl, S6, F6⟩
      have HS6 := Lib.hid (S6.now.wide (foot' := fun k => w0.heap.size ≤ k ∧ k < w6.heap.size) (fun k hk => ⟨by rcases hk.1 with h | h <;> omega, hk.2⟩))
      have HF6 := Lib.hid (HF.out.trans' (G5.out.trans (F6.mono (fun _ _ h => h.1))) (fun k hk e => by omega))
      clear S6 F6 G5 HP HF HFF
      go_wp2_with fail
      go_roundg (n.length - (j + 1))
      case measure => rw [HG.out]; omega
      case rel =>
        refine ⟨j + 1, rfl, by omega, by go_num, ?_, HF6.out⟩
        have := HS6.out
        rw [HFT.out, ← HR.out]
        simpa [Frm.more] using this
    · obtain rfl : j = n.length := by omega
      have q1 : ¬ (n.length : Int) < (n.length : Int) := by omega
      have hS := HSj.out
      rw [show (wholesN n).take n.length = wholesN n from List.take_of_length_le (by simp [wholesN])] at hS
      have hsl := hS.lt
      have hz0 := HF0.out.size
      have hsn := HS.out
      have hll := len_small (wholesN n).flatten.length hsn
      have hwl : (nameWhole n).length ≤ 20000000 := by
        unfold nameWhole
        rw [wrap_len]
        omega
      have HSH := Lib.hid (sheetShut_any w0.heap.size w0.heap.size _ (tagOf 16) (wholesN n).flatten [] ⟨⟨0, 0, false⟩, false, []⟩ wr hS ⟨by decide, by decide⟩ hsn (by omega) (by simp) (by
        show ([] : List UInt8).length + (nameWhole n).length ≤ 100000000
        simp only [List.length_nil]
        omega))
      clear hS
      go_wp2_with fail
      refine HSH.out.mono ?_
      rintro e w4 ⟨rfl, S4, F4⟩
      obtain ⟨R, hR⟩ : ∃ R, R = nameWhole n := ⟨_, rfl⟩
      have HB := Lib.hid (sheetBytes_any w0.heap.size w0.heap.size _ _ w4 S4 (by
        show ([] ++ nameWhole n).length ≤ 100000000
        simp only [List.nil_append]
        omega))
      rw [show (Frm.more ⟨⟨0, 0, false⟩, false, []⟩ (wrapS (tagOf 16) (wholesN n).flatten)).b = R from by rw [hR]; rfl] at HB
      have HR := Lib.hid hR
      have HF4 := Lib.hid (HFF.out.trans' F4 (fun k hk e => by omega))
      clear S4 F4 HSH hR
      go_wp2_with fail
      refine HB.out.mono ?_
      rintro e w5 ⟨⟨aR, cR, rfl, hown⟩, F5⟩
      have HOW := Lib.hid (own_le hown HF4.out.size)
      have HF5 := Lib.hid (HF4.out.trans F5)
      clear hown F5 HB
      go_wp2_with fail
      refine bodyPost_ret (v := .tuple #[.slice aR R.length cR, .int .i64 0]) (by simp [results, Tryz.results38, go_sem]) rfl ⟨⟨aR, cR, ?_, ?_⟩, HF5.out⟩
      · rw [HR.out]
      · rw [← HR.out]
        exact HOW.out

set_option maxRecDepth 20000 in
theorem nameWrite_bad (v : Value) (n : List (List Part)) (w : World) (h : NameAt w v n) (hf : ∀ r ∈ n, fewB r) (hok : nameOk n = false) :
    Calls Tryz.prog 38 #[v] w fun e w' => e = .returned (.tuple #[.slice none 0 0, .int .i64 1]) ∧ Fr (fun _ => False) w w' := by
  have HR := right_any v n w h hf
  rw [hok] at HR
  have HRI := Lib.hid HR
  clear h hok HR
  go_enter Tryz.func38, Tryz.ntmps38
  go_wp2_with fail
  refine HRI.out.mono ?_
  rintro e w0 ⟨rfl, F0⟩
  go_wp2_with fail
  exact bodyPost_ret (v := .tuple #[.slice none 0 0, .int .i64 1]) (by simp [results, Tryz.results38, go_sem]) rfl ⟨rfl, F0⟩
end Go.Proofs.YtgffhiopbnkjbaaGreatDoor

namespace Go.Q
open Go Go.RowKit
open Go.Proofs.YtgffhiopbnkjbaaGreatDoor
theorem steps_get : ∀ (l : List Part) (last : Option (List UInt8)) (ws : List (List UInt8)), stepsS last l = some ws → ∀ (j : Nat) (p : Part), l[j]? = some p → ∃ x, ws[j]? = some x ∧ attrS p.o p.b = some x
  | [], _, _, _, j, p, hp => by simp at hp
  | q :: t, last, ws, h, j, p, hp => by
    obtain ⟨x, ws', h1, h2, rfl, -⟩ := steps_in h
    cases j with
    | zero =>
      simp only [List.getElem?_cons_zero, Option.some.injEq] at hp
      subst hp
      exact ⟨x, rfl, h1⟩
    | succ j =>
      simp only [List.getElem?_cons_succ] at hp
      obtain ⟨y, h3, h4⟩ := steps_get t _ _ h2 j p hp
      exact ⟨y, by simpa using h3, h4⟩
theorem rdn_get {l : List Part} {ws : List (List UInt8)} (h : rdnS l = some ws) : ws.length = l.length ∧ l.length ≤ 16 ∧ ∀ (j : Nat) (p : Part), l[j]? = some p → ∃ x, ws[j]? = some x ∧ attrS p.o p.b = some x := by
  unfold rdnS at h
  split at h
  · cases h
  · rename_i hl
    exact ⟨(steps_up l none ws h).2.2, by omega, steps_get l none ws h⟩
theorem attr_room {o : List Int} {b x : List UInt8} (h : attrS o b = some x) : x.length ≤ 306 + b.length := by
  unfold attrS at h
  split at h
  · rename_i h0
    simp only [Bool.and_eq_true] at h0
    simp only [Option.some.injEq] at h
    subst h
    have h1 := oidWhole_len (nums_ok h0.1).2.1
    have h2 : (lenBytes (oidWhole o ++ b).length).length ≤ 5 := by unfold lenBytes; (repeat' split) <;> simp
    rw [wrap_len, List.length_append] at *
    omega
  · cases h
theorem flat_room {m : Nat} : ∀ {ls : List (List UInt8)}, (∀ l ∈ ls, l.length ≤ m) → ls.flatten.length ≤ ls.length * m
  | [], _ => by simp
  | x :: t, h => by
    have h1 := h x (List.mem_cons_self ..)
    have h2 := flat_room (m := m) (ls := t) (fun l hl => h l (List.mem_cons_of_mem _ hl))
    rw [List.flatten_cons, List.length_append, List.length_cons, Nat.add_mul]
    omega
theorem rdn_room {l : List Part} {ws : List (List UInt8)} (h : rdnS l = some ws) (hb : ∀ p ∈ l, p.b.length ≤ 200) : ws.flatten.length ≤ 8096 ∧ (rdnWhole ws).length ≤ 8102 := by
  obtain ⟨h1, h2, h3⟩ := rdn_get h
  have h4 : ∀ x ∈ ws, x.length ≤ 506 := fun x hx => by
    obtain ⟨i, hi⟩ := List.mem_iff_getElem?.1 hx
    have hil : i < l.length := by have := (List.getElem?_eq_some_iff.1 hi).1; omega
    obtain ⟨y, hy, ha⟩ := h3 i _ (List.getElem?_eq_getElem hil)
    rw [hi] at hy
    simp only [Option.some.injEq] at hy
    subst hy
    have := attr_room ha
    have := hb _ (List.getElem_mem hil)
    omega
  have h5 := flat_room h4
  have h6 : ws.length * 506 ≤ 16 * 506 := Nat.mul_le_mul_right _ (by omega)
  have h7 : ws.flatten.length ≤ 8096 := by omega
  refine ⟨h7, ?_⟩
  have h8 := len_small ws.flatten.length (by omega)
  unfold rdnWhole
  rw [wrap_len]
  omega
theorem name_room {n : List (List Part)} (h : nameOk n = true) (hb : ∀ r ∈ n, ∀ p ∈ r, p.b.length ≤ 200) : (wholesN n).flatten.length ≤ 518528 := by
  obtain ⟨h1, h2⟩ := name_rdns h
  have h3 := flat_room (m := 8102) (ls := wholesN n) (fun x hx => by
    obtain ⟨r, hr, rfl⟩ := List.mem_map.1 hx
    obtain ⟨ws, hws⟩ := Option.isSome_iff_exists.1 (h2 r hr)
    rw [hws]
    exact (rdn_room hws (hb r hr)).2)
  have h4 : (wholesN n).length * 8102 ≤ 64 * 8102 := Nat.mul_le_mul_right _ (by simp [wholesN]; omega)
  omega
end Go.Q
namespace Go.Proofs.YtgffhiopbnkjbaaGreatDoor
open Go Go.RowKit Go.Q
set_option linter.unusedSimpArgs false

set_option maxRecDepth 20000 in
set_option maxHeartbeats 2000000 in
theorem r14WriteStep_any (v : Value) (l : List Part) (ws : List (List UInt8)) (w : World) (h : Attrs w v l) (hf : fewB l) (hws : rdnS l = some ws) (hs : ws.flatten.length ≤ 16777216) :
    Calls Tryz.prog 44 #[v] w fun e w' => (∃ a c, e = .returned (.slice a (rdnWhole ws).length c) ∧ w'.ownsRow w.heap.size 5 1 (.slice a (rdnWhole ws).length c) (rdnWhole ws).length (Lib.byteCells (rdnWhole ws))) ∧ Fr (fun _ => False) w w' := by
  have H := Lib.hid h
  obtain ⟨hwl, hl16, hget⟩ := rdn_get hws
  have HGET := Lib.hid hget
  have HFL := Lib.hid (fun j => flat_le ws j)
  obtain ⟨a, cap, rfl, hc, hm, -⟩ := h
  clear hws hget
  go_enter Tryz.func44, Tryz.ntmps44
  go_wp2_with fail
  go_loopg [3, 4] l.length (fun g u i wr => ∃ j : Nat, g = l.length - j ∧ j ≤ l.length ∧ i = .int .i64 j ∧ wr.ownsRow w.heap.size 5 1 u (ws.take j).flatten.length (Lib.byteCells (ws.take j).flatten) ∧ Fr (fun _ => False) w wr)
  case atStart => exact ⟨0, rfl, Nat.zero_le _, rfl, ⟨rfl, .inl ⟨rfl, rfl⟩⟩, Fr.refl _⟩
  case round =>
    obtain ⟨j, hg, hj, rfl, hown, F⟩ := hrel
    have HG := Lib.hid hg
    have HF := Lib.hid F
    have HOW := Lib.hid hown
    obtain ⟨au, mu, cu, rfl, rfl⟩ := own_shape hown
    clear hg hown
    by_cases hjl : j < l.length
    · obtain ⟨a0, cap0, he, _, _, hx⟩ := H.out.old F
      simp only [Value.slice.injEq, true_and] at he
      obtain ⟨rfl, rfl⟩ := he
      obtain ⟨b, off, rfl, hy⟩ := hx (by omega)
      obtain ⟨p, hp⟩ : ∃ p, l[j]? = some p := ⟨_, List.getElem?_eq_getElem hjl⟩
      obtain ⟨x, y, e1, e2, hpx, hpy⟩ := hy j p hp
      obtain ⟨k, hk, hak⟩ := HGET.out j p hp
      have hft := flat_take hk
      have hfl := HFL.out (j + 1)
      rw [hft, List.length_append] at hfl
      have hpb := hf p (List.mem_of_getElem? hp)
      obtain ⟨ax, cx, rfl, -⟩ := Ints.form hpx
      obtain ⟨ay, cy, rfl, -⟩ := Vals.form hpy
      have HW0 := r14Whole_any _ _ p.o p.b wr hpx hpy hpb
      unfold rWholeOut at HW0
      rw [hak] at HW0
      simp only at HW0
      have HW := Lib.hid HW0
      have e1' : wr.cell? ⟨b, off + j * 2, none⟩ = some (.slice ax p.o.length cx) := by rw [Nat.mul_comm]; exact e1
      have e2' : wr.cell? ⟨b, off + j * 2 + 1, none⟩ = some (.slice ay p.b.length cy) := by rw [Nat.mul_comm]; exact e2
      have HFT := Lib.hid hft
      have r1 : (0 : Int) ≤ (j : Int) := by omega
      have r2 : (j : Int) < (l.length : Int) := by omega
      clear hx hy hp hpx hpy F e1 e2 hk hak hft HW0
      generalize (ws.take j).flatten = A at *
      go_wp2_with fail
      refine HW.out.mono ?_
      rintro e w2 ⟨⟨vk, rfl, ho2⟩, F2⟩
      obtain ⟨a2, m2, c2, rfl, rfl⟩ := own_shape ho2
      have hz1 := HF.out.size
      have hbk := (Vals.of_own HOW.out).2
      obtain ⟨v', w4, hrun, ho4, F4, _⟩ := append_bytes (ownsRow_fr HOW.out F2 (fun _ _ h => h)) a2 k.length c2 k (Vals.of_own ho2).1 (by omega) (Nat.le_trans hz1 F2.size)
      have HRUN := Lib.hid hrun
      have HO4 := Lib.hid ho4
      have HF4 := Lib.hid ((HF.out.trans F2).trans' F4 (fun i hi e => by have := (hbk i e).1; omega))
      clear e1' e2' HF HW F2 ho2 hrun ho4 F4 hbk HOW
      go_wp2_with (at_builtin; refine wpList_append_run (by rfl) (.tmp 21) (.tmp 22) 23 (by rfl) _ w4 (by exact HRUN.out) ?_)
      go_roundg (l.length - (j + 1))
      case measure => rw [HG.out]; omega
      case rel => exact ⟨j + 1, rfl, by omega, by go_num, by rw [HFT.out, List.length_append]; exact HO4.out, HF4.out⟩
    · obtain rfl : j = l.length := by omega
      have hT : ws.take l.length = ws := List.take_of_length_le (by omega)
      have hown := HOW.out
      rw [hT] at hown ⊢
      have HW := Lib.hid (fun w' (F : Fr (fun _ => False) wr w') => r02Wrap_any (tagOf 17) ⟨by decide, by decide⟩ _ ws.flatten w' ((Vals.of_own hown).1.old F) hs)
      have HR := Lib.hid (show rdnWhole ws = wrapS (tagOf 17) ws.flatten from rfl)
      clear hown HOW hT hs HFL HGET
      generalize ws.flatten = A at *
      go_wp2_with fail
      refine (r02Of_any 17 wr).mono ?_
      rintro e w2 ⟨rfl, F2⟩
      have HW3 := Lib.hid (HW.out w2 F2)
      have HF2 := Lib.hid (F.trans F2)
      clear HW F2 F
      go_wp2_with fail
      refine HW3.out.mono ?_
      rintro e w3 ⟨v3, rfl, ho3, F3⟩
      obtain ⟨a3, m3, c3, rfl, rfl⟩ := own_shape ho3
      have HO3 := Lib.hid (own_le ho3 HF2.out.size)
      have HF3 := Lib.hid (HF2.out.trans F3)
      clear ho3 F3 HW3
      go_wp2_with fail
      go_ret
      rw [HR.out]
      exact ⟨⟨a3, c3, rfl, HO3.out⟩, HF3.out⟩

set_option maxRecDepth 20000 in
set_option maxHeartbeats 2000000 in
theorem r14Write_any (v : Value) (n : List (List Part)) (w : World) (h : NameAt w v n) (hf : ∀ r ∈ n, fewB r) (hok : nameOk n = true) (hs : (wholesN n).flatten.length ≤ 16777216) :
    Calls Tryz.prog 45 #[v] w fun e w' => (∃ a c, e = .returned (.slice a (nameWhole n).length c) ∧ w'.ownsRow w.heap.size 5 1 (.slice a (nameWhole n).length c) (nameWhole n).length (Lib.byteCells (nameWhole n))) ∧ Fr (fun _ => False) w w' := by
  have H := Lib.hid h
  obtain ⟨hn64, hrd⟩ := name_rdns hok
  have HRD := Lib.hid hrd
  have HFL := Lib.hid (fun j => flat_le (wholesN n) j)
  obtain ⟨a, cap, rfl, hc, hm, -⟩ := h
  clear hok hrd
  go_enter Tryz.func45, Tryz.ntmps45
  go_wp2_with fail
  go_loopg [3, 4] n.length (fun g u i wr => ∃ j : Nat, g = n.length - j ∧ j ≤ n.length ∧ i = .int .i64 j ∧ wr.ownsRow w.heap.size 5 1 u ((wholesN n).take j).flatten.length (Lib.byteCells ((wholesN n).take j).flatten) ∧ Fr (fun _ => False) w wr)
  case atStart => exact ⟨0, rfl, Nat.zero_le _, rfl, ⟨rfl, .inl ⟨rfl, rfl⟩⟩, Fr.refl _⟩
  case round =>
    obtain ⟨j, hg, hj, rfl, hown, F⟩ := hrel
    have HG := Lib.hid hg
    have HF := Lib.hid F
    have HOW := Lib.hid hown
    obtain ⟨au, mu, cu, rfl, rfl⟩ := own_shape hown
    clear hg hown
    by_cases hjl : j < n.length
    · obtain ⟨a0, cap0, he, _, _, hx⟩ := H.out.old F
      simp only [Value.slice.injEq, true_and] at he
      obtain ⟨rfl, rfl⟩ := he
      obtain ⟨b, off, rfl, hy⟩ := hx (by omega)
      obtain ⟨r, hr⟩ : ∃ r, n[j]? = some r := ⟨_, List.getElem?_eq_getElem hjl⟩
      obtain ⟨x, e1, hA⟩ := hy j r hr
      have hmem := List.mem_of_getElem? hr
      obtain ⟨ws, hws⟩ := Option.isSome_iff_exists.1 (HRD.out r hmem)
      have hk : (wholesN n)[j]? = some (rdnWhole ws) := by
        unfold wholesN
        rw [List.getElem?_map, hr]
        simp [hws]
      have hft := flat_take hk
      have hfl := HFL.out (j + 1)
      rw [hft, List.length_append] at hfl
      have hwr : ws.flatten.length ≤ (rdnWhole ws).length := by
        unfold rdnWhole
        rw [wrap_len]
        omega
      have HW := Lib.hid (r14WriteStep_any x r ws wr hA (hf r hmem) hws (by omega))
      have HFT := Lib.hid hft
      have r1 : (0 : Int) ≤ (j : Int) := by omega
      have r2 : (j : Int) < (n.length : Int) := by omega
      clear hx hy hr hA F hk hft hws hwr
      generalize rdnWhole ws = k at *
      generalize ((wholesN n).take j).flatten = A at *
      go_wp2_with fail
      refine HW.out.mono ?_
      rintro e w2 ⟨⟨a2, c2, rfl, ho2⟩, F2⟩
      have hz1 := HF.out.size
      have hbk := (Vals.of_own HOW.out).2
      obtain ⟨v', w4, hrun, ho4, F4, _⟩ := append_bytes (ownsRow_fr HOW.out F2 (fun _ _ h => h)) a2 k.length c2 k (Vals.of_own ho2).1 (by omega) (Nat.le_trans hz1 F2.size)
      have HRUN := Lib.hid hrun
      have HO4 := Lib.hid ho4
      have HF4 := Lib.hid ((HF.out.trans F2).trans' F4 (fun i hi e => by have := (hbk i e).1; omega))
      clear e1 HF HW F2 ho2 hrun ho4 F4 hbk HOW
      go_wp2_with (at_builtin; refine wpList_append_run (by rfl) (.tmp 11) (.tmp 16) 23 (by rfl) _ w4 (by exact HRUN.out) ?_)
      go_roundg (n.length - (j + 1))
      case measure => rw [HG.out]; omega
      case rel => exact ⟨j + 1, rfl, by omega, by go_num, by rw [HFT.out, List.length_append]; exact HO4.out, HF4.out⟩
    · obtain rfl : j = n.length := by omega
      have hT : (wholesN n).take n.length = wholesN n := List.take_of_length_le (by simp [wholesN])
      have hown := HOW.out
      rw [hT] at hown ⊢
      have HW := Lib.hid (fun w' (F : Fr (fun _ => False) wr w') => r02Wrap_any (tagOf 16) ⟨by decide, by decide⟩ _ (wholesN n).flatten w' ((Vals.of_own hown).1.old F) hs)
      have HR := Lib.hid (show nameWhole n = wrapS (tagOf 16) (wholesN n).flatten from rfl)
      clear hown HOW hT hs HFL
      generalize (wholesN n).flatten = A at *
      go_wp2_with fail
      refine (r02Of_any 16 wr).mono ?_
      rintro e w2 ⟨rfl, F2⟩
      have HW3 := Lib.hid (HW.out w2 F2)
      have HF2 := Lib.hid (F.trans F2)
      clear HW F2 F
      go_wp2_with fail
      refine HW3.out.mono ?_
      rintro e w3 ⟨v3, rfl, ho3, F3⟩
      obtain ⟨a3, m3, c3, rfl, rfl⟩ := own_shape ho3
      have HO3 := Lib.hid (own_le ho3 HF2.out.size)
      have HF3 := Lib.hid (HF2.out.trans F3)
      clear ho3 F3 HW3
      go_wp2_with fail
      go_ret
      rw [HR.out]
      exact ⟨⟨a3, c3, rfl, HO3.out⟩, HF3.out⟩
end Go.Proofs.YtgffhiopbnkjbaaGreatDoor

namespace Go.Q
open Go
/-- A number's bytes, as few as may be. -/
def b256 : Nat → Nat → List UInt8
  | 0, _ => []
  | f + 1, n => if n = 0 then [] else b256 f (n / 256) ++ [UInt8.ofNat (n % 256)]
theorem beS_snoc (l : List UInt8) (x : UInt8) : beS (l ++ [x]) = beS l * 256 + x.toNat := by simp [beS, List.foldl_append]
theorem b256_val : ∀ (f n : Nat), n < 256 ^ f → beS (b256 f n) = n
  | 0, n, h => by simp at h; subst h; rfl
  | f + 1, n, h => by
    unfold b256
    split
    · rename_i h0; subst h0; rfl
    · rw [beS_snoc, b256_val f (n / 256) (by rw [Nat.pow_succ] at h; omega), u8 (n % 256) (by omega)]
      omega
theorem b256_len : ∀ (f n : Nat), (b256 f n).length ≤ f
  | 0, _ => by simp [b256]
  | f + 1, n => by
    unfold b256
    split
    · simp
    · have := b256_len f (n / 256)
      rw [List.length_append, List.length_singleton]
      omega
theorem b256_head : ∀ (f n : Nat), n < 256 ^ f → ∀ x, (b256 f n)[0]? = some x → x ≠ 0
  | 0, n, h, x, hx => by simp [b256] at hx
  | f + 1, n, h, x, hx => by
    unfold b256 at hx
    split at hx
    · simp at hx
    · rename_i hn
      by_cases h0 : n / 256 = 0
      · rw [h0] at hx
        have e : b256 f 0 = [] := by cases f <;> simp [b256]
        rw [e] at hx
        simp at hx
        subst hx
        intro e
        have := congrArg UInt8.toNat e
        rw [u8 (n % 256) (by omega)] at this
        simp at this
        omega
      · have hl : 0 < (b256 f (n / 256)).length := by
          rcases Nat.eq_zero_or_pos (b256 f (n / 256)).length with h1 | h1
          · have := b256_val f (n / 256) (by rw [Nat.pow_succ] at h; omega)
            rw [List.length_eq_zero_iff.1 h1] at this
            exact absurd this.symm h0
          · exact h1
        rw [List.getElem?_append_left hl] at hx
        exact b256_head f (n / 256) (by rw [Nat.pow_succ] at h; omega) x hx
/-- Digits to the base 10, the lowest first: their value. -/
def decVal : List Nat → Nat
  | [] => 0
  | x :: t => x + 10 * decVal t
theorem decVal_append : ∀ a b : List Nat, decVal (a ++ b) = decVal a + 10 ^ a.length * decVal b
  | [], b => by simp [decVal]
  | x :: t, b => by
    have ih := decVal_append t b
    simp only [List.cons_append, decVal, ih, List.length_cons, Nat.pow_succ, Nat.mul_add]
    rw [← Nat.mul_assoc, Nat.mul_comm (10 ^ t.length) 10]
    omega
/-- Times 256, and what is carried. -/
def mulGo : Nat → List Nat → List Nat × Nat
  | c, [] => ([], c)
  | c, x :: t => (((256 * x + c) % 10) :: (mulGo ((256 * x + c) / 10) t).1, (mulGo ((256 * x + c) / 10) t).2)
theorem mulGo_snoc : ∀ (c : Nat) (l : List Nat) (x : Nat), mulGo c (l ++ [x]) = ((mulGo c l).1 ++ [(256 * x + (mulGo c l).2) % 10], (256 * x + (mulGo c l).2) / 10)
  | c, [], x => by simp [mulGo]
  | c, y :: t, x => by
    have ih := mulGo_snoc ((256 * y + c) / 10) t x
    simp only [List.cons_append, mulGo, ih]
theorem mulGo_len : ∀ (c : Nat) (l : List Nat), (mulGo c l).1.length = l.length
  | c, [] => rfl
  | c, x :: t => by simp only [mulGo, List.length_cons, mulGo_len]
theorem mulGo_val : ∀ (c : Nat) (l : List Nat), decVal (mulGo c l).1 + 10 ^ l.length * (mulGo c l).2 = 256 * decVal l + c
  | c, [] => by simp [mulGo, decVal]
  | c, x :: t => by
    have ih := mulGo_val ((256 * x + c) / 10) t
    simp only [mulGo, decVal, List.length_cons, Nat.pow_succ]
    rw [show 10 ^ t.length * 10 * (mulGo ((256 * x + c) / 10) t).2 = 10 * (10 ^ t.length * (mulGo ((256 * x + c) / 10) t).2) from by rw [Nat.mul_comm (10 ^ t.length) 10, Nat.mul_assoc]]
    generalize 10 ^ t.length * (mulGo ((256 * x + c) / 10) t).2 = y at *
    omega
theorem mulGo_small : ∀ (c : Nat) (l : List Nat), c ≤ 255 → (∀ x ∈ l, x < 10) → (mulGo c l).2 ≤ 255 ∧ ∀ x ∈ (mulGo c l).1, x < 10
  | c, [], hc, _ => ⟨hc, fun x hx => by cases hx⟩
  | c, x :: t, hc, h => by
    have hx := h x (by simp)
    obtain ⟨h1, h2⟩ := mulGo_small ((256 * x + c) / 10) t (by omega) (fun y hy => h y (by simp [hy]))
    refine ⟨h1, fun y hy => ?_⟩
    simp only [mulGo, List.mem_cons] at hy
    rcases hy with rfl | hy
    · omega
    · exact h2 y hy
/-- What is carried, as digits. -/
def tailD : Nat → Nat → List Nat
  | 0, _ => []
  | f + 1, c => if c = 0 then [] else c % 10 :: tailD f (c / 10)
theorem tail_val (c : Nat) (h : c ≤ 255) : decVal (tailD 3 c) = c := by
  simp only [tailD]
  split
  · simp [decVal]; omega
  · split
    · simp [decVal]; omega
    · split
      · simp [decVal]; omega
      · simp [decVal]; omega
theorem tail_digits : ∀ (f c : Nat), ∀ x ∈ tailD f c, x < 10
  | 0, _, x, hx => by cases hx
  | f + 1, c, x, hx => by
    unfold tailD at hx
    split at hx
    · cases hx
    · rcases List.mem_cons.1 hx with rfl | hx
      · omega
      · exact tail_digits f (c / 10) x hx
theorem tail_len : ∀ (f c : Nat), (tailD f c).length ≤ f
  | 0, _ => by simp [tailD]
  | f + 1, c => by
    unfold tailD
    split
    · simp
    · have := tail_len f (c / 10)
      simp only [List.length_cons]
      omega
theorem tail_last (c : Nat) (h : c ≤ 255) : ∀ x, (tailD 3 c).getLast? = some x → x ≠ 0 := by
  intro x hx
  simp only [tailD] at hx
  split at hx
  · cases hx
  · split at hx
    · simp at hx; omega
    · split at hx
      · simp at hx; omega
      · simp at hx; omega
/-- One byte more. -/
def stepD (d : List Nat) (x : UInt8) : List Nat := (mulGo x.toNat d).1 ++ tailD 3 (mulGo x.toNat d).2
/-- Is it as it must be? -/
def decGood (d : List Nat) : Prop := (∀ x ∈ d, x < 10) ∧ d ≠ [] ∧ (d = [0] ∨ ∀ x, d.getLast? = some x → x ≠ 0)
theorem stepD_good {d : List Nat} (h : decGood d) (x : UInt8) : decGood (stepD d x) ∧ decVal (stepD d x) = 256 * decVal d + x.toNat ∧ (stepD d x).length ≤ d.length + 3 := by
  obtain ⟨h1, h2, h3⟩ := h
  have hx := x.toNat_lt
  obtain ⟨g1, g2⟩ := mulGo_small x.toNat d (by omega) h1
  have hv := mulGo_val x.toNat d
  have hl := mulGo_len x.toNat d
  refine ⟨⟨?_, ?_, ?_⟩, ?_, ?_⟩
  · intro y hy
    rcases List.mem_append.1 hy with hy | hy
    · exact g2 y hy
    · exact tail_digits _ _ y hy
  · intro e
    have := congrArg List.length e
    simp only [stepD, List.length_append, hl, List.length_nil] at this
    have h4 := List.length_pos_iff.2 h2
    omega
  · obtain ⟨t, z, rfl⟩ : ∃ t z, d = t ++ [z] := ⟨d.dropLast, d.getLast h2, (List.dropLast_concat_getLast h2).symm⟩
    by_cases h0 : (mulGo x.toNat (t ++ [z])).2 = 0
    · have e : stepD (t ++ [z]) x = (mulGo x.toNat (t ++ [z])).1 := by unfold stepD; rw [h0]; simp [tailD]
      rw [e]
      rw [mulGo_snoc] at h0 ⊢
      simp only at h0 ⊢
      have hz : z = 0 := by omega
      rcases h3 with h3 | h3
      · have ht : t = [] := by
          have := congrArg List.length h3
          simp at this
          exact this
        subst ht
        subst hz
        simp only [mulGo, List.nil_append] at h0 ⊢
        by_cases hx0 : x.toNat = 0
        · exact .inl (by simp [hx0])
        · exact .inr (fun y hy => by simp at hy; omega)
      · exact absurd hz (h3 z (by simp))
    · refine .inr (fun y hy => ?_)
      unfold stepD at hy
      have hne : tailD 3 (mulGo x.toNat (t ++ [z])).2 ≠ [] := by
        simp only [tailD, if_neg h0]
        exact List.cons_ne_nil _ _
      rw [List.getLast?_append] at hy
      cases hq : (tailD 3 (mulGo x.toNat (t ++ [z])).2).getLast? with
      | none => exact absurd (List.getLast?_eq_none_iff.1 hq) hne
      | some q =>
        rw [hq] at hy
        simp only [Option.some_or, Option.some.injEq] at hy
        subst hy
        exact tail_last _ g1 _ hq
  · unfold stepD
    rw [decVal_append, tail_val _ g1, hl]
    exact hv
  · unfold stepD
    rw [List.length_append, hl]
    have := tail_len 3 (mulGo x.toNat d).2
    omega
/-- A number's digits. -/
def digsS (b : List UInt8) : List Nat := b.foldl stepD [0]
theorem digs_good (b : List UInt8) : decGood (digsS b) ∧ decVal (digsS b) = beS b ∧ (digsS b).length ≤ 1 + 3 * b.length := by
  induction hn : b.length generalizing b with
  | zero =>
    obtain rfl := List.length_eq_zero_iff.1 hn
    exact ⟨⟨by simp [digsS], by simp [digsS], .inl rfl⟩, rfl, by simp [digsS]⟩
  | succ n ih =>
    have hne : b ≠ [] := fun e => by simp [e] at hn
    obtain ⟨t, x, rfl⟩ : ∃ t x, b = t ++ [x] := ⟨b.dropLast, b.getLast hne, (List.dropLast_concat_getLast hne).symm⟩
    obtain ⟨h1, h2, h3⟩ := ih t (by simpa using hn)
    have e : digsS (t ++ [x]) = stepD (digsS t) x := by simp [digsS, List.foldl_append]
    rw [e]
    obtain ⟨g1, g2, g3⟩ := stepD_good h1 x
    refine ⟨g1, by rw [g2, h2, beS_snoc]; omega, by simp at hn; omega⟩
theorem digsS_take {b : List UInt8} {j : Nat} {x : UInt8} (h : b[j]? = some x) : digsS (b.take (j + 1)) = stepD (digsS (b.take j)) x := by
  unfold digsS
  rw [List.take_add_one, h]
  simp [List.foldl_append]
/-- As text. -/
def decText (d : List Nat) : List UInt8 := d.reverse.map fun x => UInt8.ofNat (48 + x)
theorem dec_small {n : Nat} (h : n < 10) : Lib.decDigits n = [UInt8.ofNat (48 + n)] := by rw [Lib.decDigits, dif_pos h]
theorem dec_big {n : Nat} (h : ¬ n < 10) : Lib.decDigits n = Lib.decDigits (n / 10) ++ [UInt8.ofNat (48 + n % 10)] := by rw [Lib.decDigits, dif_neg h]
theorem decText_val : ∀ d : List Nat, decGood d → decText d = Lib.decDigits (decVal d)
  | [], h => absurd rfl h.2.1
  | [x], h => by
    have hx := h.1 x (by simp)
    have e : decVal [x] = x := by simp [decVal]
    rw [e, dec_small hx]
    rfl
  | x :: y :: t, h => by
    have hx := h.1 x (by simp)
    have hl : ∀ z, (x :: y :: t).getLast? = some z → z ≠ 0 := by
      rcases h.2.2 with h3 | h3
      · cases h3
      · exact h3
    have hg : decGood (y :: t) := ⟨fun z hz => h.1 z (by simp [List.mem_cons.1 hz]), by simp, .inr (fun z hz => hl z (by rw [List.getLast?_cons_cons]; exact hz))⟩
    have ih := decText_val (y :: t) hg
    have hpos : decVal (y :: t) ≠ 0 := by
      have : ∀ l : List Nat, l ≠ [] → (∀ z, l.getLast? = some z → z ≠ 0) → decVal l ≠ 0 := by
        intro l
        induction l with
        | nil => intro h; exact absurd rfl h
        | cons a s ih =>
          intro _ h
          cases s with
          | nil => simp only [decVal]; have := h a rfl; omega
          | cons b r =>
            have := ih (by simp) (fun z hz => h z (by rw [List.getLast?_cons_cons]; exact hz))
            simp only [decVal] at this ⊢
            omega
      exact this _ (by simp) (fun z hz => hl z (by rw [List.getLast?_cons_cons]; exact hz))
    have e1 : decText (x :: y :: t) = decText (y :: t) ++ [UInt8.ofNat (48 + x)] := by simp [decText]
    have e2 : decVal (x :: y :: t) = x + 10 * decVal (y :: t) := rfl
    rw [e1, ih, e2]
    generalize decVal (y :: t) = v at *
    rw [dec_big (n := x + 10 * v) (by omega), show (x + 10 * v) / 10 = v from by omega, show (x + 10 * v) % 10 = x from by omega]
/-- A number's text by way of its bytes. -/
theorem num_text {n : Int} (h0 : 0 ≤ n) (h1 : n ≤ 4294967295) : decText (digsS (b256 8 n.toNat)) = Lib.itoa n := by
  obtain ⟨g1, g2, -⟩ := digs_good (b256 8 n.toNat)
  rw [decText_val _ g1, g2, b256_val 8 n.toNat (Nat.lt_of_le_of_lt (by omega : n.toNat ≤ 4294967295) (by decide))]
  unfold Lib.itoa
  rw [if_neg (by omega)]
end Go.Q

namespace Go.Q
open Go Go.RowKit
theorem b256_snoc {f n : Nat} (h : n ≠ 0) : b256 (f + 1) n = b256 f (n / 256) ++ [UInt8.ofNat (n % 256)] := by rw [b256, if_neg h]
theorem b256_zero (f : Nat) : b256 f 0 = [] := by cases f <;> simp [b256]
end Go.Q
namespace Go.Proofs.YtgffhiopbnkjbaaGreatDoor
open Go Go.RowKit Go.Q
set_option linter.unusedSimpArgs false

set_option maxRecDepth 20000 in
set_option maxHeartbeats 2000000 in
theorem r03Of_any (n : Nat) (hn : n ≤ 2147483647) (w : World) :
    Calls Tryz.prog 161 #[.int .i64 n] w fun e w' => ∃ v, e = .returned (.agg #[.bool false, v]) ∧ Bytes w' v (b256 8 n) ∧ Fr (fun _ => False) w w' := by
  obtain ⟨z, hz⟩ : ∃ z, z = w.heap.size := ⟨_, rfl⟩
  have BZ := Blk.new w 233 #[.bool false, .slice none 0 0]
  have F0 : Fr (fun _ => False) w (w.alloc (.cells #[.bool false, .slice none 0 0] 233)) := (Fr.refl w).alloc _
  rw [← hz] at BZ
  have hzw : ∀ k, k < w.heap.size → k = z → False := fun k hk e => by omega
  have HZ := Lib.hid hz
  have HF0 := Lib.hid F0
  have HZW := Lib.hid hzw
  have q0 : ¬ (n : Int) < 0 := by omega
  clear hz F0 hzw
  go_enter Tryz.func161, Tryz.ntmps161
  go_upto_region 1 with fail
  rw [← HZ.out]
  generalize (w.alloc (.cells #[.bool false, .slice none 0 0] 233)) = w0 at *
  have HBZ := Lib.hid BZ
  clear BZ
  go_wp2_with fail
  go_loopg [0, 3] n (fun g k s wr => ∃ (m f : Nat) (l : List UInt8) (a : Option Addr) (c : Nat), g = m ∧ k = .int .i64 m ∧ m ≤ n ∧ l.length + f = 8 ∧ m < 256 ^ f ∧ s = .slice a l.length c ∧ wr.ownsRow w0.heap.size 5 1 (.slice a l.length c) l.length (Lib.byteCells l) ∧ b256 8 n = b256 f m ++ l ∧ Fr (fun _ => False) w0 wr)
  case atStart => exact ⟨n, 8, [], none, 0, rfl, rfl, Nat.le_refl _, rfl, Nat.lt_of_le_of_lt hn (by decide), rfl, ⟨rfl, .inl ⟨rfl, rfl⟩⟩, by simp, Fr.refl _⟩
  case round =>
    obtain ⟨m, f, l, a, c, hg, rfl, hmn, hlf, hmf, rfl, hB, hN, F⟩ := hrel
    have HG := Lib.hid hg
    have HN := Lib.hid hN
    have HB := Lib.hid hB
    have HF := Lib.hid F
    have HMF := Lib.hid hmf
    clear hg hN hB hmf
    by_cases h0 : m = 0
    · subst h0
      have hres : b256 8 n = l := by rw [HN.out, b256_zero]; rfl
      have HR := Lib.hid hres
      have BZ := HBZ.out.fr F (fun h => h)
      have SZ := BZ.cell
      have ZZ := BZ.frozen
      clear hres F
      go_wp2_with fail
      obtain ⟨B5, F5⟩ := set2 BZ (.bool false) (.slice a l.length c)
      generalize ((wr.setCell ⟨z, 0, none⟩ (.bool false)).setCell ⟨z, 1, none⟩ (.slice a l.length c)) = w5 at *
      have n0 := B5.cell 0
      have n1 := B5.cell 1
      simp at n0 n1
      refine bodyPost_ret (v := .agg #[.bool false, .slice a l.length c]) (by simp [results, Tryz.results161, go_sem, n0, n1]) rfl ?_
      refine ⟨_, rfl, ?_, (HF0.out.trans HF.out).trans' F5 HZW.out⟩
      rw [HR.out]
      exact (Vals.of_own HB.out).1.fr F5 (fun _ k hk e => by have := ((Vals.of_own HB.out).2 k hk).1; have := HBZ.out.lt; omega)
    · have q1 : ((m : Int) == 0) = false := beq_eq_false_iff_ne.2 (by omega)
      have q1b : ((m : Int) != 0) = true := by simp; omega
      obtain ⟨r, hr⟩ : ∃ r, r = m % 256 := ⟨_, rfl⟩
      have hrl : r < 256 := by omega
      have hri : (m : Int) % 256 = (r : Int) := by omega
      have q2 : ¬ (r : Int) < 0 := by omega
      have hw8 : IntKind.u8.wrap (r : Int) = (r : Int) := by simp [IntKind.wrap, IntKind.signed, IntKind.bits]; omega
      obtain ⟨f, rfl⟩ : ∃ f', f = f' + 1 := by
        cases f with
        | zero => have := HMF.out; simp at this; omega
        | succ f => exact ⟨f, rfl⟩
      have hnx : b256 8 n = b256 f (m / 256) ++ (UInt8.ofNat r :: l) := by rw [HN.out, b256_snoc h0, hr]; simp
      have hmf2 : m / 256 < 256 ^ f := by have := HMF.out; rw [Nat.pow_succ] at this; omega
      have HNX := Lib.hid hnx
      have HMF2 := Lib.hid hmf2
      have hmi : (m : Int) / 256 = ((m / 256 : Nat) : Int) := by omega
      obtain ⟨m2, hm2⟩ : ∃ m2, m2 = m / 256 := ⟨_, rfl⟩
      rw [← hm2] at HNX HMF2 hmi
      have hm2l : m2 < m := by omega
      have BX := Blk.new wr 5 #[.int .u8 r]
      have F3 : Fr (fun _ => False) wr (wr.alloc (.cells #[.int .u8 r] 5)) := (Fr.refl wr).alloc _
      have ho1 : (wr.alloc (.cells #[.int .u8 r] 5)).ownsRow wr.heap.size 5 1 (.slice (some ⟨wr.heap.size, 0, none⟩) 1 1) 1 (Lib.byteCells [UInt8.ofNat r]) := by
        have e8 := Go.Q.u8 r (by omega)
        have BX' : Blk (wr.alloc (.cells #[.int .u8 r] 5)) wr.heap.size 5 (Lib.byteCells [UInt8.ofNat r]).toArray := by
          simpa [Lib.byteCells, e8] using BX
        exact own_bytes BX' (by simp) wr.heap.size (Nat.le_refl _)
      obtain ⟨v4, w4, hr4, ho4, F4, _⟩ := append_bytes ho1 a l.length c l ((Vals.of_own HB.out).1.old F3) (by omega) F3.size
      obtain ⟨a4, m4, c4, rfl, rfl⟩ := own_shape ho4
      have hs := F.size
      have HF4 := Lib.hid ((HF.out.trans F3).trans' F4 (fun i hi e => by have := ((Vals.of_own ho1).2 i e).1; omega))
      have e4 : 1 + l.length = (UInt8.ofNat r :: l).length := by simp; omega
      have ho5 := own_le ho4 hs
      rw [e4] at ho5 hr4
      have HO5 := Lib.hid ho5
      have HRUN := Lib.hid hr4
      clear hr hnx hmf2 hm2 BX F3 ho1 hr4 ho4 F4 ho5 F hs HN HMF
      go_wp2_with (at_builtin; refine wpList_append_run (by rfl) (.tmp 18) (.tmp 19) 23 (by rfl) _ w4 (by exact HRUN.out) ?_)
      go_roundg m2
      case measure => rw [HG.out]; omega
      case rel => exact ⟨m2, f, UInt8.ofNat r :: l, a4, c4, rfl, by go_num, by omega, by simp; omega, HMF2.out, rfl, HO5.out, HNX.out, HF4.out⟩

set_option maxRecDepth 20000 in
set_option maxHeartbeats 2000000 in
theorem r03Made_any (v : Value) (l : List UInt8) (w : World) (h : Bytes w v l) (hh : ∀ x, l[0]? = some x → x ≠ 0) (hl : l.length ≤ 1000000) :
    Calls Tryz.prog 206 #[.agg #[.bool false, v]] w fun e w' => ∃ u, e = .returned (.agg #[.bool false, u]) ∧ Bytes w' u l ∧ (∀ k, u.ownBlock = some k → w.heap.size < k) ∧ Fr (fun _ => False) w w' := by
  obtain ⟨a, cap, rfl, hcap, hcm, hx⟩ := h.form
  obtain ⟨z, hz⟩ : ∃ z, z = w.heap.size := ⟨_, rfl⟩
  have BZ := (Blk.new w 233 #[.bool false, .slice a l.length cap]).alloc (.cells #[.bool false, .slice none 0 0] 233)
  have BR := Blk.new (w.alloc (.cells #[.bool false, .slice a l.length cap] 233)) 233 #[.bool false, .slice none 0 0]
  have F0 : Fr (fun _ => False) w ((w.alloc (.cells #[.bool false, .slice a l.length cap] 233)).alloc (.cells #[.bool false, .slice none 0 0] 233)) := ((Fr.refl w).alloc _).alloc _
  rw [World.size_alloc] at BR
  rw [← hz] at BZ BR
  have hzw : ∀ k, k < w.heap.size → k = z + 1 → False := fun k hk e => by omega
  have HZW := Lib.hid hzw
  have HX := Lib.hid hx
  have HF0 := Lib.hid F0
  have HB := Lib.hid (h.old F0)
  unfold maxLen at hcm
  have HZ := Lib.hid hz
  have q1 : (0 : Int) ≤ (l.length : Int) := by omega
  have q2 : (l.length : Int) ≤ (cap : Int) := by omega
  clear h hx hz F0 hzw
  go_enter Tryz.func206, Tryz.ntmps206
  go_upto_region 1 with fail
  rw [← HZ.out]
  generalize ((w.alloc (.cells #[.bool false, .slice a l.length cap] 233)).alloc (.cells #[.bool false, .slice none 0 0] 233)) = w0 at *
  have SZ := BZ.cell
  have SR := BR.cell
  have ZR := BR.frozen
  go_wp2_with fail
  go_loopg [3] 1 (fun g k wr => g = 1 ∧ k = .int .i64 0 ∧ wr = w0)
  case atStart => exact ⟨rfl, rfl, rfl⟩
  case round =>
    obtain ⟨-, rfl, rfl⟩ := hrel
    have hlz := BR.lt
    have SA := (BZ.alloc (.cells #[] 5)).cell
    have ho0 := own_block (Blk.new wr 5 #[]) 0 (Nat.le_refl _) (Nat.zero_le _) wr.heap.size (Nat.le_refl _)
    have F3 : Fr (fun _ => False) wr (wr.alloc (.cells #[] 5)) := (Fr.refl wr).alloc _
    obtain ⟨v4, w4, hr4, ho4, F4, _⟩ := append_bytes (xs := []) ho0 a l.length cap l (HB.out.old F3) (by omega) F3.size
    obtain ⟨a4, m4, c4, rfl, rfl⟩ := own_shape ho4
    rw [Nat.zero_add] at hr4 ho4
    simp only [List.nil_append] at ho4
    have F4' := F3.trans' F4 (fun i hi e => by have := ((Vals.of_own ho0).2 i e).1; omega)
    have HBZ4 := Lib.hid (BZ.fr F4' (fun h => h))
    have HBR4 := Lib.hid (BR.fr F4' (fun h => h))
    have HF4 := Lib.hid (HF0.out.trans F4')
    have HOB := Lib.hid (show ∀ k, (Value.slice a4 l.length c4).ownBlock = some k → z + 1 < k ∧ k < w4.heap.size from fun k hk => by have := (Vals.of_own ho4).2 k hk; omega)
    have HO4 := Lib.hid (Vals.of_own ho4).1
    have HRUN := Lib.hid hr4
    clear hr4 ho4 F4 F4' F3 ho0 BZ BR SR ZR
    rcases Nat.eq_zero_or_pos l.length with h0 | h0
    · obtain rfl : l = [] := List.length_eq_zero_iff.1 h0
      simp only [List.length_nil] at *
      go_upto_region 5 with (at_builtin; refine wpList_append_run (by rfl) (.tmp 20) (.tmp 24) 23 (by rfl) _ w4 (by exact HRUN.out) ?_)
      obtain ⟨d, hd⟩ : ∃ d, d = w4.heap.size := ⟨_, rfl⟩
      have BD := Blk.new w4 233 #[.bool false, .slice a4 0 c4]
      have F5 : Fr (fun _ => False) w4 (w4.alloc (.cells #[.bool false, .slice a4 0 c4] 233)) := (Fr.refl w4).alloc _
      have BZ5 := HBZ4.out.fr F5 (fun h => h)
      have BR5 := HBR4.out.fr F5 (fun h => h)
      have hrl := HBR4.out.lt
      have HF5 := Lib.hid (HF4.out.trans F5)
      have HO5 := Lib.hid (HO4.out.old F5)
      rw [← hd] at BD ⊢
      have hdz : d ≠ z + 1 := by omega
      have HDL := Lib.hid (show w4.heap.size ≤ d by omega)
      have HDW := Lib.hid (show ∀ k, k < w.heap.size → k = d → False from fun k hk e => by have := HF4.out.size; omega)
      clear F5 HF4 HO4 hrl hd
      generalize (w4.alloc (.cells #[.bool false, .slice a4 0 c4] 233)) = w5 at *
      have s0 := BZ5.cell 0
      simp at s0
      have SD := BD.cell
      have ZD := BD.frozen
      go_upto_region 6 with fail
      have BD6 := BD.set 0 (.bool false)
      simp at BD6
      have F6 : Fr (fun q => q = d) w5 (w5.setCell ⟨d, 0, none⟩ (.bool false)) := Fr.setCell (S := fun q => q = d) (p := ⟨d, 0, none⟩) (Fr.refl w5) (fun _ => rfl) _
      have BR6 := BR5.fr F6 (fun e => hdz e.symm)
      have HO6 := Lib.hid (HO5.out.fr F6 (fun h0 k hk e => by have := HOB.out k hk; have := HDL.out; omega))
      have HF6 := Lib.hid (HF5.out.trans' F6 HDW.out)
      clear s0 SD ZD F6 BR5 BZ5 BD
      generalize (w5.setCell ⟨d, 0, none⟩ (.bool false)) = w6 at *
      have SD := BD6.cell
      have SR := BR6.cell
      have ZR := BR6.frozen
      go_wp2_with fail
      obtain ⟨B7, F7⟩ := set2 BR6 (.bool false) (.slice a4 0 c4)
      generalize ((w6.setCell ⟨z + 1, 0, none⟩ (.bool false)).setCell ⟨z + 1, 1, none⟩ (.slice a4 0 c4)) = w7 at *
      have n0 := B7.cell 0
      have n1 := B7.cell 1
      simp at n0 n1
      refine bodyPost_ret (v := .agg #[.bool false, .slice a4 0 c4]) (by simp [results, Tryz.results206, go_sem, n0, n1]) rfl ?_
      exact ⟨_, rfl, HO6.out.fr F7 (fun h0 k hk e => by have := HOB.out k hk; omega), fun k hk => by have := HOB.out k hk; have := HZ.out; omega, HF6.out.trans' F7 HZW.out⟩
    · obtain ⟨b, o, rfl, hy⟩ := HX.out h0
      obtain ⟨x, hxx⟩ : ∃ x, l[0]? = some x := ⟨_, List.getElem?_eq_getElem h0⟩
      have e1 := HF0.out.cell (hy 0 x hxx) (fun h => h)
      have hx0 := hh x hxx
      have hx1 : ((x.toNat : Int) == 0) = false := beq_eq_false_iff_ne.2 (fun e => hx0 (UInt8.toNat_inj.1 (by simpa using e)))
      generalize x.toNat = y at *
      simp only [Nat.add_zero] at e1
      have q3 : (0 : Int) < (l.length : Int) := by omega
      clear hy hxx hx0
      go_upto_region 5 with (at_builtin; refine wpList_append_run (by rfl) (.tmp 20) (.tmp 24) 23 (by rfl) _ w4 (by exact HRUN.out) ?_)
      obtain ⟨d, hd⟩ : ∃ d, d = w4.heap.size := ⟨_, rfl⟩
      have BD := Blk.new w4 233 #[.bool false, .slice a4 l.length c4]
      have F5 : Fr (fun _ => False) w4 (w4.alloc (.cells #[.bool false, .slice a4 l.length c4] 233)) := (Fr.refl w4).alloc _
      have BZ5 := HBZ4.out.fr F5 (fun h => h)
      have BR5 := HBR4.out.fr F5 (fun h => h)
      have hrl := HBR4.out.lt
      have HF5 := Lib.hid (HF4.out.trans F5)
      have HO5 := Lib.hid (HO4.out.old F5)
      rw [← hd] at BD ⊢
      have hdz : d ≠ z + 1 := by omega
      have HDL := Lib.hid (show w4.heap.size ≤ d by omega)
      have HDW := Lib.hid (show ∀ k, k < w.heap.size → k = d → False from fun k hk e => by have := HF4.out.size; omega)
      clear F5 HF4 HO4 hrl hd
      generalize (w4.alloc (.cells #[.bool false, .slice a4 l.length c4] 233)) = w5 at *
      have s0 := BZ5.cell 0
      simp at s0
      have SD := BD.cell
      have ZD := BD.frozen
      go_upto_region 6 with fail
      have BD6 := BD.set 0 (.bool false)
      simp at BD6
      have F6 : Fr (fun q => q = d) w5 (w5.setCell ⟨d, 0, none⟩ (.bool false)) := Fr.setCell (S := fun q => q = d) (p := ⟨d, 0, none⟩) (Fr.refl w5) (fun _ => rfl) _
      have BR6 := BR5.fr F6 (fun e => hdz e.symm)
      have HO6 := Lib.hid (HO5.out.fr F6 (fun h0 k hk e => by have := HOB.out k hk; have := HDL.out; omega))
      have HF6 := Lib.hid (HF5.out.trans' F6 HDW.out)
      clear s0 SD ZD F6 BR5 BZ5 BD
      generalize (w5.setCell ⟨d, 0, none⟩ (.bool false)) = w6 at *
      have SD := BD6.cell
      have SR := BR6.cell
      have ZR := BR6.frozen
      go_wp2_with fail
      obtain ⟨B7, F7⟩ := set2 BR6 (.bool false) (.slice a4 l.length c4)
      generalize ((w6.setCell ⟨z + 1, 0, none⟩ (.bool false)).setCell ⟨z + 1, 1, none⟩ (.slice a4 l.length c4)) = w7 at *
      have n0 := B7.cell 0
      have n1 := B7.cell 1
      simp at n0 n1
      refine bodyPost_ret (v := .agg #[.bool false, .slice a4 l.length c4]) (by simp [results, Tryz.results206, go_sem, n0, n1]) rfl ?_
      exact ⟨_, rfl, HO6.out.fr F7 (fun h0 k hk e => by have := HOB.out k hk; omega), fun k hk => by have := HOB.out k hk; have := HZ.out; omega, HF6.out.trans' F7 HZW.out⟩

end Go.Proofs.YtgffhiopbnkjbaaGreatDoor

namespace Go.Q
open Go Go.RowKit
theorem mulGo_take {c : Nat} {d : List Nat} {j x : Nat} (h : d[j]? = some x) : mulGo c (d.take (j + 1)) = ((mulGo c (d.take j)).1 ++ [(256 * x + (mulGo c (d.take j)).2) % 10], (256 * x + (mulGo c (d.take j)).2) / 10) := by
  rw [List.take_add_one, h]
  exact mulGo_snoc c (d.take j) x
/-- The row on its way: what is done, and what is still to be done. -/
def mulRow (c : Nat) (d : List Nat) (j : Nat) : List Nat := (mulGo c (d.take j)).1 ++ d.drop j
theorem mulRow_len (c : Nat) (d : List Nat) (j : Nat) (h : j ≤ d.length) : (mulRow c d j).length = d.length := by
  unfold mulRow
  rw [List.length_append, mulGo_len, List.length_take, List.length_drop]
  omega
theorem mulRow_get {c : Nat} {d : List Nat} {j x : Nat} (h : d[j]? = some x) : (mulRow c d j)[j]? = some x := by
  have hj := (List.getElem?_eq_some_iff.1 h).1
  have hl : (mulGo c (d.take j)).1.length = j := by rw [mulGo_len, List.length_take]; omega
  unfold mulRow
  rw [List.getElem?_append_right (by omega), hl, Nat.sub_self, List.getElem?_drop]
  exact h
theorem mulRow_set {c : Nat} {d : List Nat} {j x : Nat} (h : d[j]? = some x) : (mulRow c d j).set j ((256 * x + (mulGo c (d.take j)).2) % 10) = mulRow c d (j + 1) := by
  have hj := (List.getElem?_eq_some_iff.1 h).1
  have hl : (mulGo c (d.take j)).1.length = j := by rw [mulGo_len, List.length_take]; omega
  have hd : d.drop j = x :: d.drop (j + 1) := by
    obtain ⟨h1, rfl⟩ := List.getElem?_eq_some_iff.1 h
    exact List.drop_eq_getElem_cons h1
  unfold mulRow
  rw [mulGo_take h, List.set_append_right _ _ (by omega), hl, Nat.sub_self, hd]
  simp
theorem mulRow_all (c : Nat) (d : List Nat) : mulRow c d d.length = (mulGo c d).1 := by
  unfold mulRow
  rw [List.take_length, List.drop_length, List.append_nil]
end Go.Q
namespace Go.Proofs.YtgffhiopbnkjbaaGreatDoor
open Go Go.RowKit Go.Q
set_option linter.unusedSimpArgs false

set_option maxRecDepth 20000 in
set_option maxHeartbeats 4000000 in
theorem r03Text_any (v : Value) (l : List UInt8) (w : World) (h : Bytes w v l) (hh : ∀ x, l[0]? = some x → x ≠ 0) (hl : l.length ≤ 8) :
    Calls Tryz.prog 160 #[.agg #[.bool false, v]] w fun e w' => e = .returned (str (decText (digsS l))) ∧ Fr (fun _ => False) w w' := by
  obtain ⟨a, cap, rfl, -⟩ := h.form
  obtain ⟨z, hz⟩ : ∃ z, z = w.heap.size := ⟨_, rfl⟩
  have BZ := Blk.new w 233 #[.bool false, .slice a l.length cap]
  have F0 : Fr (fun _ => False) w (w.alloc (.cells #[.bool false, .slice a l.length cap] 233)) := (Fr.refl w).alloc _
  rw [← hz] at BZ
  have hzw : ∀ k, k < w.heap.size → k = z → False := fun k hk e => by omega
  have HZW := Lib.hid hzw
  have HM := Lib.hid (r03Made_any _ l _ (h.old F0) hh (by omega))
  have HF0 := Lib.hid F0
  have HZ := Lib.hid hz
  clear h hz F0 hzw
  go_enter Tryz.func160, Tryz.ntmps160
  go_upto_region 1 with fail
  rw [← HZ.out]
  generalize (w.alloc (.cells #[.bool false, .slice a l.length cap] 233)) = w0 at *
  have SZ := BZ.cell
  go_wp2_with fail
  refine HM.out.mono ?_
  rintro e w1 ⟨u, rfl, hu, hub, F1⟩
  obtain ⟨au, cu, rfl, -⟩ := hu.form
  have BZ1 := BZ.fr F1 (fun h => h)
  have HB1 := Lib.hid hu
  have HF1 := Lib.hid (HF0.out.trans F1)
  have SZ := BZ1.cell
  have ZZ := BZ1.frozen
  have hs0 := BZ.lt
  obtain ⟨BZ2, F2⟩ := set2 BZ1 (.bool false) (.slice au l.length cu)
  have HB2 := Lib.hid (hu.fr F2 (fun _ k hk e => by have := hub k hk; omega))
  have HF2 := Lib.hid (HF1.out.trans' F2 HZW.out)
  clear hu F1 HM hub hs0 F2 HB1 HF1
  go_upto_region 2 with fail
  generalize ((w1.setCell ⟨z, 0, none⟩ (.bool false)).setCell ⟨z, 1, none⟩ (.slice au l.length cu)) = w2 at *
  clear SZ ZZ BZ1
  have B0 := Blk.new w2 3 #[.int .i64 0]
  have F3 : Fr (fun _ => False) w2 (w2.alloc (.cells #[.int .i64 0] 3)) := (Fr.refl w2).alloc _
  have ho0 : (w2.alloc (.cells #[.int .i64 0] 3)).ownsRow w2.heap.size 3 1 (.slice (some ⟨w2.heap.size, 0, none⟩) 1 1) 1 (intCells (natInts [0])) := own_block B0 1 (by simp) (by unfold maxLen; simp) w2.heap.size (Nat.le_refl _)
  have HO0 := Lib.hid ho0
  have HF3 := Lib.hid F3
  have HBZ := Lib.hid BZ2
  obtain ⟨base, hbase⟩ : ∃ b, b = w2.heap.size := ⟨_, rfl⟩
  rw [← hbase] at HO0
  have hbz : z < base := by have := BZ2.lt; omega
  have HBASE := Lib.hid hbase
  clear B0 F3 ho0 BZ2
  go_upto_region 4 with fail
  rw [← HBASE.out]
  generalize (w2.alloc (.cells #[.int .i64 0] 3)) = w3 at *
  clear hbase
  go_loopg [3, 4] l.length (fun g dd i wr => ∃ (j : Nat) (D : List Nat) (a1 : Option Addr) (c1 : Nat), g = l.length - j ∧ j ≤ l.length ∧ i = .int .i64 j ∧ dd = .slice a1 D.length c1 ∧ D = digsS (l.take j) ∧ wr.ownsRow base 3 1 (.slice a1 D.length c1) D.length (intCells (natInts D)) ∧ Fr (fun _ => False) w2 wr)
  case atStart => exact ⟨0, [0], some ⟨base, 0, none⟩, 1, rfl, Nat.zero_le _, rfl, rfl, rfl, HO0.out, HF3.out⟩
  case round =>
    obtain ⟨j, D, a1, c1, hg, hj, rfl, rfl, hD, hO1, F4⟩ := hrel
    have HG := Lib.hid hg
    have HD := Lib.hid hD
    have HO1 := Lib.hid hO1
    have HF4 := Lib.hid F4
    have hgood := digs_good (l.take j)
    rw [← hD] at hgood
    obtain ⟨hg1, hg2, hg3⟩ := hgood
    have hDl : D.length ≤ 25 := by rw [List.length_take] at hg3; omega
    have HGD := Lib.hid hg1
    have BZ4 := HBZ.out.fr F4 (fun h => h)
    have s1 := BZ4.cell 1
    simp at s1
    clear hg hD hO1 hg1 hg2 hg3
    by_cases hjl : j < l.length
    · obtain ⟨x, hxj⟩ : ∃ x, l[j]? = some x := ⟨_, List.getElem?_eq_getElem hjl⟩
      obtain ⟨b, o, rfl, hy⟩ : ∃ b o, au = some ⟨b, o, none⟩ ∧ ∀ i x, l[i]? = some x → w2.cell? ⟨b, o + i, none⟩ = some (.int .u8 x.toNat) := by
        obtain ⟨a0, c0, he, -, -, hy⟩ := HB2.out.form
        simp only [Value.slice.injEq] at he
        obtain ⟨rfl, -, -⟩ := he
        exact hy (by omega)
      have e1 := F4.cell (hy j x hxj) (fun h => h)
      have HDN := Lib.hid (digsS_take hxj)
      have hx256 := x.toNat_lt
      obtain ⟨y, hyx⟩ : ∃ y, y = x.toNat := ⟨_, rfl⟩
      have HYX := Lib.hid hyx
      rw [← hyx] at e1 hx256
      have hy256 : y ≤ 255 := by omega
      have q1 : (0 : Int) ≤ (j : Int) := by omega
      have q2 : (j : Int) < (l.length : Int) := by omega
      clear hy hyx hxj hx256 F4 BZ4
      go_upto_region 8 with fail
      clear s1 e1
      go_loopg [5, 6] D.length (fun g c k wi => ∃ (j2 : Nat), g = D.length - j2 ∧ j2 ≤ D.length ∧ c = .int .i64 (mulGo y (D.take j2)).2 ∧ k = .int .i64 j2 ∧ wi.ownsRow base 3 1 (.slice a1 D.length c1) D.length (intCells (natInts (mulRow y D j2))) ∧ Fr (fun _ => False) w2 wi)
      case atStart => exact ⟨0, rfl, Nat.zero_le _, rfl, rfl, HO1.out, HF4.out⟩
      case round =>
        obtain ⟨j2, hg, hj2, rfl, rfl, hO2, F5⟩ := hrel
        have HG2 := Lib.hid hg
        have HF5 := Lib.hid F5
        have hcs := (mulGo_small y (D.take j2) hy256 (fun t ht => HGD.out.1 t (List.mem_of_mem_take ht))).1
        obtain ⟨cc, hcc⟩ : ∃ cc, cc = (mulGo y (D.take j2)).2 := ⟨_, rfl⟩
        have HCC := Lib.hid hcc
        rw [← hcc] at hcs ⊢
        clear hg hcc
        by_cases hjl2 : j2 < D.length
        · obtain ⟨t, ht⟩ : ∃ t, D[j2]? = some t := ⟨_, List.getElem?_eq_getElem hjl2⟩
          have ht10 := HGD.out.1 t (List.mem_of_getElem? ht)
          obtain ⟨n, hn⟩ : ∃ n, n = 256 * t + cc := ⟨_, rfl⟩
          have hni : 256 * (t : Int) + (cc : Int) = (n : Int) := by omega
          have hset := mulRow_set (c := y) ht
          rw [← HCC.out, ← hn] at hset
          have hget := mulRow_get (c := y) ht
          have hmt := mulGo_take (c := y) ht
          rw [← HCC.out, ← hn] at hmt
          obtain ⟨g, rfl, hg1, hg2, -, hlc, hcm, hfz, hcell, hset2, F6⟩ := own_set hO2 j2 hjl2 (.int .i64 ((n % 10 : Nat) : Int))
          have hcell2 : (intCells (natInts (mulRow y D j2)))[j2]? = some (.int .i64 (t : Int)) := by rw [intCells_get, List.getElem?_map, hget]; rfl
          rw [hcell2] at hcell
          have hset3 : (intCells (natInts (mulRow y D j2))).set j2 (.int .i64 ((n % 10 : Nat) : Int)) = intCells (natInts (mulRow y D (j2 + 1))) := by
            rw [← hset]
            simp only [intCells, natInts, List.map_set]
          rw [hset3] at hset2
          have q3 : (0 : Int) ≤ (j2 : Int) := by omega
          have q4 : (j2 : Int) < (D.length : Int) := by omega
          have hnl : n ≤ 2559 := by omega
          obtain ⟨r, hr⟩ : ∃ r, r = n % 10 := ⟨_, rfl⟩
          obtain ⟨qq, hqq⟩ : ∃ qq, qq = n / 10 := ⟨_, rfl⟩
          have hn1 : (n : Int) % 10 = (r : Int) := by omega
          have hn2 : (n : Int) / 10 = (qq : Int) := by omega
          rw [← hr] at hset2
          rw [← hqq] at hmt
          have hrl : r < 10 := by omega
          have hql : qq ≤ 255 := by omega
          rw [← hr] at F6
          have HSET := Lib.hid hset2
          have HMT := Lib.hid hmt
          have HF6 := Lib.hid (F5.trans' F6 (fun i hi e => by have := HBASE.out; omega))
          clear hr hqq
          have hcx : D.length ≤ c1 := hlc
          clear hset hset2 hset3 hget hmt hcell2 ht hn F5 F6 hO2 hcm
          go_wp2_with fail
          go_roundg (D.length - (j2 + 1))
          case measure => rw [HG2.out]; omega
          case rel => exact ⟨j2 + 1, rfl, by omega, by rw [HMT.out], by go_num, HSET.out, HF6.out⟩
        · obtain rfl : j2 = D.length := by omega
          have q4 : ¬ (D.length : Int) < (D.length : Int) := by omega
          rw [mulRow_all] at hO2
          have hcc2 := HCC.out
          rw [List.take_length] at hcc2
          obtain ⟨M, hM⟩ : ∃ M, M = (mulGo y D).1 := ⟨_, rfl⟩
          have hMl : M.length = D.length := by rw [hM, mulGo_len]
          have hstep : digsS (l.take (j + 1)) = M ++ tailD 3 cc := by rw [HDN.out, ← HD.out]; unfold stepD; rw [← HYX.out, ← hM, ← hcc2]
          rw [← hM, ← hMl] at hO2
          rw [← hMl] at hDl q4 ⊢
          have HO2 := Lib.hid hO2
          have HSTEP := Lib.hid hstep
          have hcc3 : cc ≤ 255 := hcs
          clear hcc2 hM hstep hO2 F5 HCC
          go_upto_region 13 with fail
          go_loopg [3, 5] cc (fun g dd c wi => ∃ (m f : Nat) (dn : List Nat) (a3 : Option Addr) (c3 : Nat), g = m ∧ m ≤ 255 ∧ c = .int .i64 m ∧ dd = .slice a3 (M ++ dn).length c3 ∧ dn ++ tailD f m = tailD 3 cc ∧ dn.length + f = 3 ∧ m < 10 ^ f ∧ wi.ownsRow base 3 1 (.slice a3 (M ++ dn).length c3) (M ++ dn).length (intCells (natInts (M ++ dn))) ∧ Fr (fun _ => False) w2 wi)
          case atStart => exact ⟨cc, 3, [], a1, c1, rfl, hcc3, rfl, by rw [List.append_nil, hMl], rfl, rfl, Nat.lt_of_le_of_lt hcc3 (by decide), by rw [List.append_nil]; exact HO2.out, HF5.out⟩
          case round =>
            obtain ⟨m, f, dn, a3, c3, hg, hm, rfl, rfl, hT, hdf, hmf, hO3, F7⟩ := hrel
            have HG3 := Lib.hid hg
            have HT := Lib.hid hT
            have HO3 := Lib.hid hO3
            have HMF := Lib.hid hmf
            have HF7 := Lib.hid F7
            clear hg hT hO3 hmf
            obtain ⟨L3, hL3⟩ : ∃ L3, L3 = (M ++ dn).length := ⟨_, rfl⟩
            have hL3l : L3 ≤ 30 := by rw [hL3, List.length_append]; omega
            rw [← hL3] at HO3 ⊢
            have HL3 := Lib.hid hL3
            clear hL3
            by_cases h0 : m = 0
            · subst h0
              have hend : dn = tailD 3 cc := by
                have := HT.out
                rw [show tailD f 0 = [] from by cases f <;> simp [tailD], List.append_nil] at this
                exact this
              have hnx : digsS (l.take (j + 1)) = M ++ dn := by rw [HSTEP.out, hend]
              have HNX := Lib.hid hnx
              clear hend hnx F7
              go_wp2_with fail
              go_roundg (l.length - (j + 1))
              case measure => rw [HG.out]; omega
              case rel => exact ⟨j + 1, M ++ dn, a3, c3, rfl, by omega, by go_num, by rw [HL3.out], HNX.out.symm, by rw [← HL3.out]; exact HO3.out, HF7.out⟩
            · have q5 : (0 : Int) < (m : Int) := by omega
              obtain ⟨f, rfl⟩ : ∃ f', f = f' + 1 := by
                cases f with
                | zero => have := HMF.out; simp at this; omega
                | succ f => exact ⟨f, rfl⟩
              obtain ⟨r, hr⟩ : ∃ r, r = m % 10 := ⟨_, rfl⟩
              obtain ⟨qq, hqq⟩ : ∃ qq, qq = m / 10 := ⟨_, rfl⟩
              have hn1 : (m : Int) % 10 = (r : Int) := by omega
              have hn2 : (m : Int) / 10 = (qq : Int) := by omega
              have hmf2 : qq < 10 ^ f := by have := HMF.out; rw [Nat.pow_succ] at this; omega
              have hT2 : (dn ++ [r]) ++ tailD f qq = tailD 3 cc := by
                rw [← HT.out, tailD, if_neg h0, ← hr, ← hqq]
                simp
              have HMF2 := Lib.hid hmf2
              have HT2 := Lib.hid hT2
              have hql : qq < m := by omega
              obtain ⟨a7, c7, w7, hr7, ho7, F8, -⟩ := add_int (xs := natInts (M ++ dn)) HO3.out (by have := HBASE.out; have := F7.size; omega) (by omega) (r : Int) wr.heap.size ((Fr.refl (S := fun _ => False) wr).alloc (.cells #[.int .i64 (r : Int)] 3)) (Blk.new wr 3 #[.int .i64 (r : Int)])
              have hvb := (Vals.of_own HO3.out).2
              have HF8 := Lib.hid (F7.trans' F8 (fun i hi e => by have := hvb i e; have := HBASE.out; omega))
              have hcat : natInts (M ++ dn) ++ [(r : Int)] = natInts (M ++ (dn ++ [r])) := by simp [natInts]
              have hlen : L3 + 1 = (M ++ (dn ++ [r])).length := by rw [HL3.out]; simp; omega
              rw [hcat] at ho7
              rw [hlen] at ho7 hr7
              have HO7 := Lib.hid ho7
              have HRUN := Lib.hid hr7
              clear hr hqq hmf2 hT2 ho7 hr7 F8 hvb hcat hlen F7
              obtain ⟨L4, hL4⟩ : ∃ L4, L4 = (M ++ (dn ++ [r])).length := ⟨_, rfl⟩
              rw [← hL4] at HO7 HRUN
              have HL4 := Lib.hid hL4
              clear hL4
              go_wp2_with (at_builtin; refine wpList_append_run (by rfl) (.tmp 48) (.tmp 51) 22 (by rfl) _ w7 (by exact HRUN.out) ?_)
              go_roundg qq
              case measure => rw [HG3.out]; omega
              case rel => exact ⟨qq, f, dn ++ [r], a7, c7, rfl, by omega, by go_num, by rw [HL4.out], HT2.out, by simp; omega, HMF2.out, by rw [← HL4.out]; exact HO7.out, HF8.out⟩
    · obtain rfl : j = l.length := by omega
      have q2 : ¬ (l.length : Int) < (l.length : Int) := by omega
      have hDD := HD.out
      rw [List.take_length] at hDD
      have HDD := Lib.hid hDD
      have HGD10 := Lib.hid HGD.out.1
      have s0 := BZ4.cell 0
      simp at s0
      clear hDD HD
      obtain ⟨wo, hwo⟩ : ∃ wo : World, wo = wr := ⟨_, rfl⟩
      obtain rfl := hwo
      have HINT := Lib.hid (Vals.of_own HO1.out).1
      go_upto_region 18 with fail
      clear s0 s1
      go_loopg [8, 9] D.length (fun g s i wi => ∃ j : Nat, g = D.length - j ∧ j ≤ D.length ∧ s = str (decText (D.take j)) ∧ i = .int .i64 j ∧ Fr (fun _ => False) wo wi)
      case atStart => exact ⟨0, rfl, Nat.zero_le _, rfl, rfl, Fr.refl _⟩
      case round =>
        obtain ⟨j, hg, hj, rfl, rfl, F5⟩ := hrel
        have HG5 := Lib.hid hg
        have HF5 := Lib.hid F5
        clear hg
        by_cases hjl : j < D.length
        · obtain ⟨x, hx⟩ : ∃ x, D[j]? = some x := ⟨_, List.getElem?_eq_getElem hjl⟩
          have hx10 := HGD10.out x (List.mem_of_getElem? hx)
          obtain ⟨b1, o1, rfl, hy⟩ : ∃ b o, a1 = some ⟨b, o, none⟩ ∧ ∀ i x, (natInts D)[i]? = some x → wr.cell? ⟨b, o + i, none⟩ = some (.int .i64 x) := by
            obtain ⟨a0, c0, he, -, -, hy⟩ := Ints.form (HINT.out.old F5)
            simp only [Value.slice.injEq] at he
            obtain ⟨rfl, -, -⟩ := he
            exact hy (by simp [natInts]; omega)
          have e1 := hy j (x : Int) (by rw [List.getElem?_map, hx]; rfl)
          have hdt : decText (D.take (j + 1)) = UInt8.ofNat (48 + x) :: decText (D.take j) := by
            unfold decText
            rw [List.take_add_one, hx]
            simp
          have HDT := Lib.hid hdt
          obtain ⟨T, hT⟩ : ∃ T, T = decText (D.take j) := ⟨_, rfl⟩
          have hTl : T.length ≤ 30 := by rw [hT]; simp [decText]; omega
          rw [← hT] at HDT ⊢
          obtain ⟨q, hq⟩ : ∃ q, q = 48 + x := ⟨_, rfl⟩
          rw [← hq] at HDT
          have hqi : 48 + (x : Int) = (q : Int) := by omega
          have hql : q < 256 := by omega
          have hw8 : IntKind.u8.wrap (q : Int) = (q : Int) := by simp [IntKind.wrap, IntKind.signed, IntKind.bits]; omega
          have hsb : Bytes (wr.alloc (.cells #[.int .u8 q] 5)) (.slice (some ⟨wr.heap.size, 0, none⟩) 1 1) [UInt8.ofNat q] := by
            have e8 := Go.Q.u8 q hql
            have BX := Blk.new wr 5 #[.int .u8 q]
            have BX' : Blk (wr.alloc (.cells #[.int .u8 q] 5)) wr.heap.size 5 (Lib.byteCells [UInt8.ofNat q]).toArray := by
              simpa [Lib.byteCells, e8] using BX
            exact Vals.of_block BX' (by simp [Lib.byteCells]; unfold maxLen; omega)
          have hcv := str_of hsb
          have hs1 : (ByteArray.mk [UInt8.ofNat q].toArray).size = 1 := rfl
          have hs2 : (ByteArray.mk T.toArray).size = T.length := by simp [ByteArray.size]
          have q3 : (0 : Int) ≤ (j : Int) := by omega
          have q4 : (j : Int) < (D.length : Int) := by omega
          have F6 := F5.alloc (.cells #[.int .u8 q] 5)
          have HF6 := Lib.hid F6
          clear hy hx hdt hq hsb F5 F6 hT
          go_wp2_with fail
          go_roundg (D.length - (j + 1))
          case measure => rw [HG5.out]; omega
          case rel => exact ⟨j + 1, rfl, by omega, by rw [HDT.out, show UInt8.ofNat q :: T = [UInt8.ofNat q] ++ T from rfl]; exact congrArg Value.string (ba_cat _ _), by go_num, HF6.out⟩
        · obtain rfl : j = D.length := by omega
          have q4 : ¬ (D.length : Int) < (D.length : Int) := by omega
          obtain ⟨T, hT⟩ : ∃ T, T = decText (D.take D.length) := ⟨_, rfl⟩
          have hres : decText (digsS l) = T := by rw [hT, List.take_length, HDD.out]
          have HRES := Lib.hid hres
          rw [← hT]
          have BZ6 := BZ4.fr F5 (fun h => h)
          have s0 := BZ6.cell 0
          simp at s0
          have HG6 := Lib.hid ((HF2.out.trans HF4.out).trans F5)
          clear hres BZ6 F5 hT
          go_wp2_with fail
          go_ret
          exact ⟨by rw [HRES.out]; rfl, HG6.out⟩
end Go.Proofs.YtgffhiopbnkjbaaGreatDoor

namespace Go.Proofs.YtgffhiopbnkjbaaGreatDoor
open Go Go.RowKit Go.Q
set_option linter.unusedSimpArgs false

/-- A number's text. -/
theorem r03num_any (n : Nat) (hn : n ≤ 2147483647) (v : Value) (w : World) (h : Bytes w v (b256 8 n)) :
    Calls Tryz.prog 160 #[.agg #[.bool false, v]] w fun e w' => e = .returned (str (Lib.itoa n)) ∧ Fr (fun _ => False) w w' := by
  have e := num_text (n := (n : Int)) (by omega) (by omega)
  rw [show ((n : Int)).toNat = n from by omega] at e
  rw [← e]
  exact r03Text_any v (b256 8 n) w h (b256_head 8 n (Nat.lt_of_le_of_lt hn (by decide))) (b256_len 8 n)

set_option maxRecDepth 20000 in
set_option maxHeartbeats 2000000 in
theorem r04Text_any (v : Value) (o : List Int) (w : World) (h : Ints w v o) (ho : ∀ n ∈ o, 0 ≤ n ∧ n ≤ 2147483647) (hl : o.length ≤ 100) :
    Calls Tryz.prog 120 #[v] w fun e w' => e = .returned (str (oidTextS o)) ∧ Fr (fun _ => False) w w' := by
  obtain ⟨a, cap, rfl, -, -, hx⟩ := Ints.form h
  have HX := Lib.hid hx
  have HO := Lib.hid ho
  obtain ⟨R, hR⟩ : ∃ R, R = oidTextS o := ⟨_, rfl⟩
  have HR := Lib.hid hR
  rw [← hR]
  clear h hx ho hR
  go_enter Tryz.func120, Tryz.ntmps120
  go_wp2_with fail
  go_loopg [3, 4] o.length (fun g s i wr => ∃ (j : Nat) (T : List UInt8), g = o.length - j ∧ j ≤ o.length ∧ T = oidTextS (o.take j) ∧ s = str T ∧ i = .int .i64 j ∧ Fr (fun _ => False) w wr)
  case atStart => exact ⟨0, [], rfl, Nat.zero_le _, rfl, rfl, rfl, Fr.refl _⟩
  case round =>
    obtain ⟨j, T, hg, hj, hT, rfl, rfl, F⟩ := hrel
    have HG := Lib.hid hg
    have HT := Lib.hid hT
    have HF := Lib.hid F
    have hTl : T.length ≤ 3000 := by
      have := oidText_len (o := o.take j) (fun n hn => by have := HO.out n (List.mem_of_mem_take hn); omega)
      rw [← hT, List.length_take] at this
      omega
    have hs2 : (ByteArray.mk T.toArray).size = T.length := by simp [ByteArray.size]
    clear hg hT
    by_cases hjl : j < o.length
    · obtain ⟨b, off, rfl, hy⟩ := HX.out (by omega)
      obtain ⟨x, hxj⟩ : ∃ x, o[j]? = some x := ⟨_, List.getElem?_eq_getElem hjl⟩
      have ex := F.cell (hy j x hxj) (fun h => h)
      have hx0 := HO.out x (List.mem_of_getElem? hxj)
      obtain ⟨y, hyx⟩ : ∃ y : Nat, x = (y : Int) := ⟨x.toNat, by omega⟩
      subst hyx
      have hyl : y ≤ 2147483647 := by omega
      have HC := Lib.hid (r03Of_any y hyl wr)
      have q1 : (0 : Int) ≤ (j : Int) := by omega
      have q2 : (j : Int) < (o.length : Int) := by omega
      obtain ⟨I, hI⟩ : ∃ I, I = Lib.itoa (y : Int) := ⟨_, rfl⟩
      have hIl : I.length ≤ 20 := by rw [hI]; exact itoa_len (by omega) (by omega)
      have hs3 : (ByteArray.mk I.toArray).size = I.length := by simp [ByteArray.size]
      have HI := Lib.hid hI
      rcases Nat.eq_zero_or_pos j with h0 | h0
      · subst h0
        rw [Nat.add_zero] at ex
        have hnx : oidTextS (o.take 1) = I := by rw [oidText_first hxj, hI]
        have hT0 : T = [] := by rw [HT.out]; rfl
        subst hT0
        have HNX := Lib.hid hnx
        clear hy hxj hnx hI F hs2
        go_wp2_with fail
        refine HC.out.mono ?_
        rintro e w1 ⟨v1, rfl, hv1, F1⟩
        obtain ⟨a1, c1, rfl, -⟩ := hv1.form
        have HC2 := r03num_any y hyl _ w1 hv1
        rw [← HI.out] at HC2
        have HCC := Lib.hid HC2
        have HF1 := Lib.hid (HF.out.trans F1)
        clear HC HC2 hv1 F1
        go_wp2_with fail
        refine HCC.out.mono ?_
        rintro e w2 ⟨rfl, F2⟩
        have HF2 := Lib.hid (HF1.out.trans F2)
        clear F2 HCC HF1
        go_wp2_with fail
        go_roundg (o.length - 1)
        case measure => rw [HG.out]; omega
        case rel => exact ⟨1, I, rfl, by omega, HNX.out.symm, by first | rfl | exact congrArg Value.string (ba_cat [] I), by go_num, HF2.out⟩
      · have q3 : (0 : Int) < (j : Int) := by omega
        obtain ⟨j, rfl⟩ : ∃ j', j = j' + 1 := ⟨j - 1, by omega⟩
        have hnx : oidTextS (o.take (j + 1 + 1)) = T ++ [46] ++ I := by rw [oidText_next hxj, hI, HT.out]
        have HNX := Lib.hid hnx
        have hs4 : (ByteArray.mk (T ++ [46]).toArray).size = T.length + 1 := by simp [ByteArray.size]
        have hcat : (ByteArray.mk T.toArray) ++ (ByteArray.mk #[46]) = ByteArray.mk (T ++ [46]).toArray := ba_cat T [46]
        clear hy hxj hnx hI F
        go_wp2_with fail
        refine HC.out.mono ?_
        rintro e w1 ⟨v1, rfl, hv1, F1⟩
        obtain ⟨a1, c1, rfl, -⟩ := hv1.form
        have HC2 := r03num_any y hyl _ w1 hv1
        rw [← HI.out] at HC2
        have HCC := Lib.hid HC2
        have HF1 := Lib.hid (HF.out.trans F1)
        clear HC HC2 hv1 F1
        go_wp2_with fail
        refine HCC.out.mono ?_
        rintro e w2 ⟨rfl, F2⟩
        have HF2 := Lib.hid (HF1.out.trans F2)
        clear F2 HCC HF1
        go_wp2_with fail
        go_roundg (o.length - (j + 1 + 1))
        case measure => rw [HG.out]; omega
        case rel => exact ⟨j + 1 + 1, T ++ [46] ++ I, rfl, by omega, HNX.out.symm, by first | exact congrArg Value.string (ba_cat (T ++ [46]) I) | (rw [List.append_assoc, ← ba_cat, ← ba_cat]) | (rw [← ba_cat, ← ba_cat]), by go_num, HF2.out⟩
    · obtain rfl : j = o.length := by omega
      have q2 : ¬ (o.length : Int) < (o.length : Int) := by omega
      have hres : R = T := by rw [HR.out, HT.out, List.take_length]
      have HRES := Lib.hid hres
      clear hres
      go_wp2_with fail
      go_ret
      exact ⟨by rw [HRES.out]; rfl, HF.out⟩
end Go.Proofs.YtgffhiopbnkjbaaGreatDoor

namespace Go.Q
open Go
theorem fold_blank {s : List Int × Bool} {n : Int} (h : blankB n = true) : foldStep s n = (s.1, decide (0 < s.1.length)) := by unfold foldStep; rw [if_pos h]
theorem fold_sign {s : List Int × Bool} {n : Int} (h : blankB n = false) : foldStep s n = ((if s.2 = true then s.1 ++ [32] else s.1) ++ [smallS n], false) := by unfold foldStep; rw [if_neg (by rw [h]; decide)]
/-- Blanks in front leave nothing. -/
theorem fold_front (l : List Int) : ∀ j, j ≤ l.length → (∀ (k : Nat) (n : Int), k < j → l[k]? = some n → blankB n = true) → foldAcc (l.take j) = ([], false)
  | 0, _, _ => rfl
  | j + 1, hj, h => by
    obtain ⟨n, hn⟩ : ∃ n, l[j]? = some n := ⟨_, List.getElem?_eq_getElem (by omega)⟩
    rw [foldAcc_take hn, fold_front l j (by omega) (fun k n hk => h k n (by omega)), fold_blank (h j n (by omega) hn)]
    rfl
/-- Blanks behind change no sign. -/
theorem fold_back (l : List Int) (t : Nat) : ∀ d, t + d ≤ l.length → (∀ (k : Nat) (n : Int), t ≤ k → l[k]? = some n → blankB n = true) → (foldAcc (l.take (t + d))).1 = (foldAcc (l.take t)).1
  | 0, _, _ => rfl
  | d + 1, hd, h => by
    obtain ⟨n, hn⟩ : ∃ n, l[t + d]? = some n := ⟨_, List.getElem?_eq_getElem (by omega)⟩
    rw [← Nat.add_assoc, foldAcc_take hn, fold_blank (h (t + d) n (by omega) hn)]
    exact fold_back l t d (by omega) h
/-- What is out behind i signs, in the reference's way. -/
def fOut (l : List Int) (i : Nat) : List Int := (foldAcc (l.take i)).1 ++ (if (foldAcc (l.take i)).2 = true then [32] else [])
/-- How it stands there. -/
def fAt (l : List Int) (fr i : Nat) : Prop := (i = fr ∧ foldAcc (l.take i) = ([], false)) ∨ (fr < i ∧ (foldAcc (l.take i)).1 ≠ [] ∧ ∀ p, l[i - 1]? = some p → (foldAcc (l.take i)).2 = blankB p)
theorem fOut_front {l : List Int} {fr : Nat} (h : foldAcc (l.take fr) = ([], false)) : fOut l fr = [] := by unfold fOut; rw [h]; rfl
theorem fOut_sign {l : List Int} {fr i : Nat} {n : Int} (_h : fAt l fr i) (hfr : fr ≤ i) (hn : l[i]? = some n) (hb : blankB n = false) : fOut l (i + 1) = fOut l i ++ [smallS n] ∧ fAt l fr (i + 1) := by
  have e := foldAcc_take hn
  rw [fold_sign hb] at e
  refine ⟨?_, .inr ⟨by omega, by rw [e]; simp, fun p hp => ?_⟩⟩
  · unfold fOut
    rw [e]
    simp only [Bool.false_eq_true, if_false, List.append_nil]
    split <;> simp
  · rw [Nat.add_sub_cancel, hn] at hp
    cases hp
    rw [e, hb]
theorem fOut_blank {l : List Int} {fr i : Nat} {n p : Int} (h : fAt l fr i) (hfr : fr < i) (hn : l[i]? = some n) (hp : l[i - 1]? = some p) (hb : blankB n = true) : fOut l (i + 1) = fOut l i ++ (if blankB p = true then [] else [32]) ∧ fAt l fr (i + 1) := by
  have e := foldAcc_take hn
  rw [fold_blank hb] at e
  rcases h with ⟨h1, -⟩ | ⟨-, h2, h3⟩
  · omega
  · have hlen : 0 < (foldAcc (l.take i)).1.length := List.length_pos_iff.2 h2
    have hd : decide (0 < (foldAcc (l.take i)).1.length) = true := decide_eq_true hlen
    rw [hd] at e
    have h3p := h3 p hp
    refine ⟨?_, .inr ⟨by omega, by rw [e]; exact h2, fun q hq => ?_⟩⟩
    · unfold fOut
      rw [e, h3p]
      cases hbp : blankB p <;> simp
    · rw [Nat.add_sub_cancel, hn] at hq
      cases hq
      rw [e, hb]
/-- All of it. -/
theorem fOut_all {l : List Int} {fr t : Nat} (h : fAt l fr t) (ht : t ≤ l.length) (hl : fr < t → ∀ p, l[t - 1]? = some p → blankB p = false) (hb : ∀ (k : Nat) (n : Int), t ≤ k → l[k]? = some n → blankB n = true) : foldS l = fOut l t := by
  have e := fold_back l t (l.length - t) (by omega) hb
  rw [show t + (l.length - t) = l.length from by omega, List.take_length] at e
  have e2 : foldS l = (foldAcc l).1 := rfl
  rw [e2, e]
  unfold fOut
  rcases h with ⟨-, h1⟩ | ⟨h1, h2, h3⟩
  · rw [h1]; rfl
  · obtain ⟨p, hp⟩ : ∃ p, l[t - 1]? = some p := ⟨_, List.getElem?_eq_getElem (by omega)⟩
    rw [h3 p hp, hl h1 p hp]
    simp
theorem fOut_len (l : List Int) (i : Nat) : (fOut l i).length ≤ 2 * i + 1 := by
  unfold fOut
  have h1 := foldAcc_len (l.take i)
  have h2 : (l.take i).length ≤ i := by rw [List.length_take]; omega
  rw [List.length_append]
  split <;> simp only [List.length_cons, List.length_nil] <;> omega
end Go.Q

namespace Go.Proofs.YtgffhiopbnkjbaaGreatDoor
open Go Go.RowKit Go.Q
set_option linter.unusedSimpArgs false

set_option maxRecDepth 20000 in
theorem r13blank_any (n : Int) (w : World) :
    Calls Tryz.prog 207 #[.int .i64 n] w fun e w' => e = .returned (.bool (blankB n)) ∧ w = w' := by
  have hc : n = 32 ∨ n = 9 ∨ n = 10 ∨ n = 11 ∨ n = 12 ∨ n = 13 ∨ (n ≠ 32 ∧ n ≠ 9 ∧ n ≠ 10 ∧ n ≠ 11 ∧ n ≠ 12 ∧ n ≠ 13) := by omega
  rcases hc with rfl | rfl | rfl | rfl | rfl | rfl | ⟨h0, h1, h2, h3, h4, h5⟩
  case' inr.inr.inr.inr.inr.inr =>
    have hb : blankB n = false := decide_eq_false (by omega)
    rw [hb]
    have q0 : (n == 32) = false := beq_eq_false_iff_ne.2 h0
    have q1 : (n == 9) = false := beq_eq_false_iff_ne.2 h1
    have q2 : (n == 10) = false := beq_eq_false_iff_ne.2 h2
    have q3 : (n == 11) = false := beq_eq_false_iff_ne.2 h3
    have q4 : (n == 12) = false := beq_eq_false_iff_ne.2 h4
    have q5 : (n == 13) = false := beq_eq_false_iff_ne.2 h5
    clear hb h0 h1 h2 h3 h4 h5
  all_goals
    go_enter Tryz.func207, Tryz.ntmps207
    go_wp2_with fail
    go_ret
    exact ⟨rfl, rfl⟩

set_option maxRecDepth 20000 in
set_option maxHeartbeats 4000000 in
theorem r13Signs_any (v : Value) (l : List Int) (w : World) (h : Ints w v l) (hl : l.length ≤ 1099511627) :
    Calls Tryz.prog 162 #[v] w fun e w' => ∃ u, e = .returned u ∧ w'.ownsRow w.heap.size 3 1 u (foldS l).length (intCells (foldS l)) ∧ Fr (fun _ => False) w w' := by
  obtain ⟨a, cap, rfl, -, -, hx⟩ := Ints.form h
  have HX := Lib.hid hx
  have HBL := Lib.hid r13blank_any
  obtain ⟨R, hR⟩ : ∃ R, R = foldS l := ⟨_, rfl⟩
  rw [← hR]
  have HR := Lib.hid hR
  clear h hx hR
  go_enter Tryz.func162, Tryz.ntmps162
  go_upto_block 0 with fail
  go_cut [3] from 10 to 21 (fun s wc => ∃ j : Nat, s = .int .i64 j ∧ j ≤ l.length ∧ (∀ (k : Nat) (n : Int), k < j → l[k]? = some n → blankB n = true) ∧ (∀ n, l[j]? = some n → blankB n = false) ∧ wc = w)
  case first =>
    go_wp2_with fail
    go_loopg [3] l.length (fun g s wr => ∃ j : Nat, g = l.length - j ∧ j ≤ l.length ∧ s = .int .i64 j ∧ (∀ (k : Nat) (n : Int), k < j → l[k]? = some n → blankB n = true) ∧ wr = w)
    case atStart => exact ⟨0, rfl, Nat.zero_le _, rfl, fun k n hk => absurd hk (Nat.not_lt_zero _), rfl⟩
    case round =>
      obtain ⟨j, hg, hj, rfl, hall, rfl⟩ := hrel
      have HG := Lib.hid hg
      have HA := Lib.hid hall
      clear hg hall
      by_cases hjl : j < l.length
      · obtain ⟨b, off, rfl, hy⟩ := HX.out (by omega)
        obtain ⟨x, hxj⟩ : ∃ x, l[j]? = some x := ⟨_, List.getElem?_eq_getElem hjl⟩
        have ex := hy j x hxj
        have HXJ := Lib.hid hxj
        have q1 : (0 : Int) ≤ (j : Int) := by omega
        have q2 : (j : Int) < (l.length : Int) := by omega
        clear hy hxj
        rcases Bool.eq_false_or_eq_true (blankB x) with hb | hb
        · have HC := HBL.out x wr
          rw [hb] at HC
          have HCC := Lib.hid HC
          have HB := Lib.hid hb
          clear HC hb
          go_wp2_with fail
          refine HCC.out.mono ?_
          rintro e w' ⟨rfl, rfl⟩
          go_wp2_with fail
          go_roundg (l.length - (j + 1))
          case measure => rw [HG.out]; omega
          case rel =>
            refine ⟨j + 1, rfl, by omega, by go_num, fun k n hk hn => ?_, rfl⟩
            rcases Nat.lt_or_ge k j with h | h
            · exact HA.out k n h hn
            · obtain rfl : k = j := by omega
              rw [HXJ.out] at hn
              cases hn
              exact HB.out
        · have HC := HBL.out x wr
          rw [hb] at HC
          have HCC := Lib.hid HC
          have HB := Lib.hid hb
          clear HC hb
          go_wp2_with fail
          refine HCC.out.mono ?_
          rintro e w' ⟨rfl, rfl⟩
          go_wp2_with fail
          go_meet
          exact ⟨j, rfl, hj, HA.out, fun n hn => by rw [HXJ.out] at hn; cases hn; exact HB.out, rfl⟩
      · obtain rfl : j = l.length := by omega
        have q2 : ¬ (l.length : Int) < (l.length : Int) := by omega
        go_wp2_with fail
        go_meet
        exact ⟨l.length, rfl, Nat.le_refl _, HA.out, fun n hn => by simp at hn, rfl⟩
  case rest =>
    obtain ⟨fr, rfl, hfl, hfa, hfn, rfl⟩ := hcut
    have HFA := Lib.hid hfa
    have HFN := Lib.hid hfn
    clear hfa hfn
    go_upto_block 2 with fail
    go_cut [4] from 22 to 34 (fun s wx => ∃ t : Nat, s = .int .i64 t ∧ fr ≤ t ∧ t ≤ l.length ∧ (∀ (k : Nat) (n : Int), t ≤ k → l[k]? = some n → blankB n = true) ∧ (fr < t → ∀ p, l[t - 1]? = some p → blankB p = false) ∧ wx = wc)
    case first =>
      go_wp2_with fail
      go_loopg [4] l.length (fun g s wr => ∃ t : Nat, g = t ∧ fr ≤ t ∧ t ≤ l.length ∧ s = .int .i64 t ∧ (∀ (k : Nat) (n : Int), t ≤ k → l[k]? = some n → blankB n = true) ∧ wr = wc)
      case atStart =>
        have hn0 : ∀ (k : Nat) (n : Int), l.length ≤ k → l[k]? = some n → blankB n = true := fun k n hk hn => by
          rw [List.getElem?_eq_none hk] at hn
          cases hn
        refine ⟨l.length, rfl, hfl, Nat.le_refl _, ?_⟩
        first | exact ⟨rfl, hn0, rfl⟩ | exact ⟨hn0, rfl⟩
      case round =>
        obtain ⟨t, hg, hft, htl, rfl, hall, rfl⟩ := hrel
        have HG := Lib.hid hg
        have HA := Lib.hid hall
        clear hg hall
        by_cases hlt : fr < t
        · obtain ⟨b, off, rfl, hy⟩ := HX.out (by omega)
          obtain ⟨x, hxj⟩ : ∃ x, l[t - 1]? = some x := ⟨_, List.getElem?_eq_getElem (by omega)⟩
          have ex := hy (t - 1) x hxj
          have HXJ := Lib.hid hxj
          have q1 : (0 : Int) ≤ (t : Int) - 1 := by omega
          have q2 : (t : Int) - 1 < (l.length : Int) := by omega
          have q3 : (fr : Int) < (t : Int) := by omega
          have hin : ((t : Int) - 1).toNat = t - 1 := by omega
          clear hy hxj
          rcases Bool.eq_false_or_eq_true (blankB x) with hb | hb
          · have HC := HBL.out x wr
            rw [hb] at HC
            have HCC := Lib.hid HC
            have HB := Lib.hid hb
            clear HC hb
            go_wp2_with fail
            refine HCC.out.mono ?_
            rintro e w' ⟨rfl, rfl⟩
            go_wp2_with fail
            go_roundg (t - 1)
            case measure => rw [HG.out]; omega
            case rel =>
              refine ⟨t - 1, rfl, by omega, by omega, by congr 1; omega, fun k n hk hn => ?_, rfl⟩
              rcases Nat.lt_or_ge k t with h | h
              · obtain rfl : k = t - 1 := by omega
                rw [HXJ.out] at hn
                cases hn
                exact HB.out
              · exact HA.out k n h hn
          · have HC := HBL.out x wr
            rw [hb] at HC
            have HCC := Lib.hid HC
            have HB := Lib.hid hb
            clear HC hb
            go_wp2_with fail
            refine HCC.out.mono ?_
            rintro e w' ⟨rfl, rfl⟩
            go_wp2_with fail
            go_meet
            exact ⟨t, rfl, hft, htl, HA.out, fun _ p hp => by rw [HXJ.out] at hp; cases hp; exact HB.out, rfl⟩
        · have q3 : ¬ (fr : Int) < (t : Int) := by omega
          go_wp2_with fail
          go_meet
          exact ⟨t, rfl, hft, htl, HA.out, fun h => absurd h hlt, rfl⟩
    case rest =>
      obtain ⟨t, rfl, hft, htl, hback, hlast, rfl⟩ := hcut
      have HBK := Lib.hid hback
      have HLS := Lib.hid hlast
      have hf0 := fold_front l fr hfl HFA.out
      have HF0 := Lib.hid hf0
      clear hback hlast hf0
      go_wp2_with fail
      go_loopg [5, 6] (t - fr) (fun g u i wr => ∃ (j : Nat) (L : Nat) (a1 : Option Addr) (c1 : Nat), g = t - j ∧ fr ≤ j ∧ j ≤ t ∧ u = .slice a1 L c1 ∧ i = .int .i64 j ∧ L = (fOut l j).length ∧ fAt l fr j ∧ wr.ownsRow wc.heap.size 3 1 (.slice a1 L c1) L (intCells (fOut l j)) ∧ Fr (fun _ => False) wc wr)
      case atStart => exact ⟨fr, 0, none, 0, rfl, Nat.le_refl _, hft, rfl, rfl, by rw [fOut_front HF0.out]; rfl, .inl ⟨rfl, HF0.out⟩, by rw [fOut_front HF0.out]; exact ⟨rfl, .inl ⟨rfl, rfl⟩⟩, Fr.refl _⟩
      case round =>
        obtain ⟨j, L, a1, c1, hg, hfj, hjt, rfl, rfl, hL, hA, hO, F⟩ := hrel
        have HG := Lib.hid hg
        have HL := Lib.hid hL
        have HA := Lib.hid hA
        have HO := Lib.hid hO
        have HF := Lib.hid F
        have hLl : L ≤ 3000000000 := by have := fOut_len l j; omega
        clear hg hL hA hO
        by_cases hjl : j < t
        · obtain ⟨b, off, rfl, hy⟩ := HX.out (by omega)
          obtain ⟨x, hxj⟩ : ∃ x, l[j]? = some x := ⟨_, List.getElem?_eq_getElem (by omega)⟩
          have ex := F.cell (hy j x hxj) (fun h => h)
          have HXJ := Lib.hid hxj
          have q1 : (0 : Int) ≤ (j : Int) := by omega
          have q2 : (j : Int) < (l.length : Int) := by omega
          have q3 : (j : Int) < (t : Int) := by omega
          have hbase : wc.heap.size ≤ wr.heap.size := F.size
          have hvb := (Vals.of_own HO.out).2
          clear hxj
          rcases Bool.eq_false_or_eq_true (blankB x) with hb | hb
          · have hfr : fr < j := by
              rcases Nat.lt_or_ge fr j with h | h
              · exact h
              · obtain rfl : fr = j := by omega
                have := HFN.out x HXJ.out
                rw [hb] at this
                cases this
            obtain ⟨p, hp⟩ : ∃ p, l[j - 1]? = some p := ⟨_, List.getElem?_eq_getElem (by omega)⟩
            have ep := F.cell (hy (j - 1) p hp) (fun h => h)
            obtain ⟨hn1, hn2⟩ := fOut_blank HA.out hfr HXJ.out hp hb
            have HC := HBL.out x wr
            rw [hb] at HC
            have HCC := Lib.hid HC
            have q4 : (0 : Int) ≤ (j : Int) - 1 := by omega
            have q5 : (j : Int) - 1 < (l.length : Int) := by omega
            have hin : ((j : Int) - 1).toNat = j - 1 := by omega
            have HN1 := Lib.hid hn1
            have HN2 := Lib.hid hn2
            clear HC hy hn1 hn2 hp
            rcases Bool.eq_false_or_eq_true (blankB p) with hbp | hbp
            · have HP := HBL.out p wr
              rw [hbp] at HP
              have HPP := Lib.hid HP
              have hnx : fOut l (j + 1) = fOut l j := by rw [HN1.out, if_pos hbp, List.append_nil]
              have HNX := Lib.hid hnx
              clear HP hbp hb hnx hvb F
              go_wp2_with fail
              refine HCC.out.mono ?_
              rintro e w' ⟨rfl, rfl⟩
              go_wp2_with fail
              refine HPP.out.mono ?_
              rintro e w' ⟨rfl, rfl⟩
              go_wp2_with fail
              go_roundg (t - (j + 1))
              case measure => rw [HG.out]; omega
              case rel => exact ⟨j + 1, L, a1, c1, rfl, by omega, by omega, rfl, by go_num, by rw [HNX.out]; exact HL.out, HN2.out, by rw [HNX.out]; exact HO.out, HF.out⟩
            · have HP := HBL.out p wr
              rw [hbp] at HP
              have HPP := Lib.hid HP
              have hnx : fOut l (j + 1) = fOut l j ++ [32] := by rw [HN1.out, if_neg (by rw [hbp]; decide)]
              have HNX := Lib.hid hnx
              obtain ⟨a7, c7, w7, hr7, ho7, F7, -⟩ := add_int HO.out hbase (by omega) (32 : Int) wr.heap.size ((Fr.refl (S := fun _ => False) wr).alloc (.cells #[.int .i64 (32 : Int)] 3)) (Blk.new wr 3 #[.int .i64 (32 : Int)])
              have HF7 := Lib.hid (F.trans' F7 (fun i hi e => by have := hvb i e; omega))
              rw [← hnx] at ho7
              have HO7 := Lib.hid ho7
              have HRUN := Lib.hid hr7
              clear HP hbp hb hnx hvb F ho7 hr7 F7
              go_wp2_with fail
              refine HCC.out.mono ?_
              rintro e w' ⟨rfl, rfl⟩
              go_wp2_with fail
              refine HPP.out.mono ?_
              rintro e w' ⟨rfl, rfl⟩
              go_wp2_with (at_builtin; refine wpList_append_run (by rfl) (.tmp 54) (.tmp 55) 22 (by rfl) _ w7 (by exact HRUN.out) ?_)
              go_roundg (t - (j + 1))
              case measure => rw [HG.out]; omega
              case rel => exact ⟨j + 1, L + 1, a7, c7, rfl, by omega, by omega, rfl, by go_num, by rw [HNX.out, List.length_append, ← HL.out]; rfl, HN2.out, HO7.out, HF7.out⟩
          · obtain ⟨hn1, hn2⟩ := fOut_sign HA.out hfj HXJ.out hb
            have HC := HBL.out x wr
            rw [hb] at HC
            have HCC := Lib.hid HC
            obtain ⟨y, hyx⟩ : ∃ y, y = smallS x := ⟨_, rfl⟩
            rw [← hyx] at hn1
            obtain ⟨a7, c7, w7, hr7, ho7, F7, -⟩ := add_int HO.out hbase (by omega) y wr.heap.size ((Fr.refl (S := fun _ => False) wr).alloc (.cells #[.int .i64 y] 3)) (Blk.new wr 3 #[.int .i64 y])
            have HF7 := Lib.hid (F.trans' F7 (fun i hi e => by have := hvb i e; omega))
            rw [← hn1] at ho7
            have HO7 := Lib.hid ho7
            have HRUN := Lib.hid hr7
            have HN1 := Lib.hid hn1
            have HN2 := Lib.hid hn2
            have hcase : ((64 : Int) < x ∧ x < 91 ∧ x + 32 = y) ∨ ((64 : Int) < x ∧ ¬ x < 91 ∧ x = y) ∨ (¬ (64 : Int) < x ∧ x = y) := by
              unfold smallS at hyx
              split at hyx <;> omega
            clear HC hb hn1 hn2 hvb F ho7 hr7 F7 hyx hy
            rcases hcase with ⟨g1, g2, g3⟩ | ⟨g1, g2, g3⟩ | ⟨g1, g3⟩
            all_goals
              subst g3
              go_wp2_with fail
              refine HCC.out.mono ?_
              rintro e w' ⟨rfl, rfl⟩
              go_wp2_with (at_builtin; refine wpList_append_run (by rfl) (.tmp 65) (.tmp 67) 22 (by rfl) _ w7 (by exact HRUN.out) ?_)
              go_roundg (t - (j + 1))
              case measure => rw [HG.out]; omega
              case rel => exact ⟨j + 1, L + 1, a7, c7, rfl, by omega, by omega, rfl, by go_num, by rw [HN1.out, List.length_append, ← HL.out]; rfl, HN2.out, HO7.out, HF7.out⟩
        · obtain rfl : j = t := by omega
          have q3 : ¬ (j : Int) < (j : Int) := by omega
          have hres : R = fOut l j := by rw [HR.out]; exact fOut_all HA.out htl HLS.out HBK.out
          have HRES := Lib.hid hres
          clear hres
          go_wp2_with fail
          exact bodyPost_ret (v := .slice a1 L c1) (by simp [results, Tryz.results162, go_sem]) rfl ⟨_, rfl, by rw [HRES.out, ← HL.out]; exact HO.out, HF.out⟩
end Go.Proofs.YtgffhiopbnkjbaaGreatDoor

namespace Go.Q
open Go Go.RowKit
theorem may_nats {l : List Int} (h : ∀ n ∈ l, mayS 12 n = true) : l = natInts (l.map Int.toNat) ∧ (∀ n ∈ l.map Int.toNat, n < 1114112) ∧ encAll (l.map Int.toNat) = ofS 12 l := by
  refine ⟨?_, ?_, ?_⟩
  · unfold natInts
    rw [List.map_map]
    refine ((List.map_congr_left (fun m hm => ?_)).trans (List.map_id l)).symm
    have := h m hm
    simp [mayS, surr] at this
    simp
    omega
  · intro n hn
    obtain ⟨m, hm, rfl⟩ := List.mem_map.1 hn
    have := h m hm
    simp [mayS, surr] at this
    omega
  · simp only [ofS, encAll, List.flatMap_map]
    rfl
end Go.Q
namespace Go.Proofs.YtgffhiopbnkjbaaGreatDoor
open Go Go.RowKit Go.Q
set_option linter.unusedSimpArgs false

/-- UTF-8 of signs that may be. -/
theorem r06Utf8_may (v : Value) (l : List Int) (w : World) (h : Ints w v l) (hm : ∀ n ∈ l, mayS 12 n = true) (hl : l.length ≤ 100000000) :
    Calls Tryz.prog 28 #[v] w fun e w' => ∃ v', e = .returned v' ∧ w'.ownsRow w.heap.size 5 1 v' (ofS 12 l).length (Lib.byteCells (ofS 12 l)) ∧ Fr (fun _ => False) w w' := by
  obtain ⟨h1, h2, h3⟩ := may_nats hm
  rw [h1] at h
  have := r06Utf8_any v (l.map Int.toNat) w h h2 (by simpa using hl)
  rw [h3] at this
  exact this

set_option maxRecDepth 20000 in
set_option maxHeartbeats 2000000 in
theorem r13Key_any (k : Int) (v : Value) (b : List UInt8) (w : World) (h : Bytes w v b) (hr : rightS k b = true) (hl : b.length ≤ 16777216) :
    Calls Tryz.prog 121 #[.agg #[.int .i64 k, v]] w fun e w' => e = .returned (.tuple #[str (foldKeyS k b), .bool true]) ∧ Fr (fun _ => False) w w' := by
  obtain ⟨a, cap, rfl, -⟩ := h.form
  have F0 : Fr (fun _ => False) w (w.alloc (.cells #[.int .i64 k, .slice a b.length cap] 25)) := (Fr.refl w).alloc _
  obtain ⟨z, hz⟩ : ∃ z, z = w.heap.size := ⟨_, rfl⟩
  have BZ := Blk.new w 25 #[.int .i64 k, .slice a b.length cap]
  rw [← hz] at BZ
  have HZ := Lib.hid hz
  have hS := r06Signs_any k _ b _ (h.old F0) hl
  unfold RSigOut at hS
  rw [sigR_right hr] at hS
  simp only [Option.isSome_some, Option.getD_some] at hS
  have HS := Lib.hid hS
  have hsl := signsS_len k b
  have HM := Lib.hid (fun n hn => may12 (right_all hr n hn))
  have hfk : foldKeyS k b = ofS 12 (foldS (signsS k b)) := rfl
  rw [hfk]
  obtain ⟨S, hSS⟩ : ∃ S, S = signsS k b := ⟨_, rfl⟩
  rw [← hSS] at HS HM hsl ⊢
  have hfl : (foldS S).length ≤ 2 * S.length := foldAcc_len S
  have HFM := Lib.hid (fold_may HM.out)
  obtain ⟨R, hR⟩ : ∃ R, R = foldS S := ⟨_, rfl⟩
  rw [← hR] at hfl HFM ⊢
  have HR := Lib.hid hR
  have HF0 := Lib.hid F0
  clear h hz hS hfk hSS hR F0 hr HM
  go_enter Tryz.func121, Tryz.ntmps121
  go_upto_region 1 with fail
  rw [← HZ.out]
  generalize (w.alloc (.cells #[.int .i64 k, .slice a b.length cap] 25)) = w0 at *
  have z0 := BZ.cell 0
  have z1 := BZ.cell 1
  simp only [List.getElem?_toArray, List.getElem?_cons_succ, List.getElem?_cons_zero] at z0 z1
  go_wp2_with fail
  refine HS.out.mono ?_
  rintro e w1 ⟨v1, rfl, h1, F1⟩
  obtain ⟨a1, c1, rfl, -⟩ := Ints.form h1
  have HG := Lib.hid (r13Signs_any _ S w1 h1 (by omega))
  rw [← HR.out] at HG
  have HF1 := Lib.hid (HF0.out.trans F1)
  clear h1 F1 HS z0 z1
  go_wp2_with fail
  refine HG.out.mono ?_
  rintro e w2 ⟨v2, rfl, ho2, F2⟩
  have hI2 := (Vals.of_own ho2).1
  obtain ⟨a2, c2, rfl, -⟩ := Ints.form hI2
  have HU := Lib.hid (r06Utf8_may _ R w2 hI2 HFM.out (by omega))
  have HF2 := Lib.hid (HF1.out.trans F2)
  clear ho2 hI2 F2 HG
  go_wp2_with fail
  refine HU.out.mono ?_
  rintro e w3 ⟨v3, rfl, ho3, F3⟩
  have hB3 := (Vals.of_own ho3).1
  obtain ⟨a3, c3, rfl, -⟩ := Vals.form hB3
  have hcv := str_of hB3
  have HF3 := Lib.hid (HF2.out.trans F3)
  clear ho3 hB3 F3 HU
  go_wp2_with fail
  exact bodyPost_ret (v := .tuple #[str (ofS 12 R), .bool true]) (by simp [results, Tryz.results121, go_sem]) rfl ⟨rfl, HF3.out⟩
end Go.Proofs.YtgffhiopbnkjbaaGreatDoor

namespace Go.Q
open Go Go.RowKit
abbrev hexL : List UInt8 := [48, 49, 50, 51, 52, 53, 54, 55, 56, 57, 97, 98, 99, 100, 101, 102]
theorem hexL_fin : ∀ m : Fin 16, hexL[m.val]? = some (UInt8.ofNat (hexN (m.val : Int)).toNat) := by decide
theorem hexN_fin : ∀ m : Fin 16, (UInt8.ofNat (hexN (m.val : Int)).toNat).toNat = (hexN (m.val : Int)).toNat ∧ 0 ≤ hexN (m.val : Int) := by decide
end Go.Q
namespace Go.Proofs.YtgffhiopbnkjbaaGreatDoor
open Go Go.RowKit Go.Q
set_option linter.unusedSimpArgs false

theorem hexL_index (m : Nat) (h : m < 16) (w : World) : (Instr.index 9 (.string ⟨#[48, 49, 50, 51, 52, 53, 54, 55, 56, 57, 97, 98, 99, 100, 101, 102]⟩) (.int .u8 m)).run Tryz.prog w = .ok (.int .u8 (hexN (m : Int))) w := by
  have hsz : (ByteArray.mk #[48, 49, 50, 51, 52, 53, 54, 55, 56, 57, 97, 98, 99, 100, 101, 102]).size = 16 := rfl
  rw [run_index_string w 9 _ .u8 m Tryz.underlying9, dif_pos ⟨by omega, by rw [hsz]; omega⟩]
  have h1 := hexL_fin ⟨m, h⟩
  have h2 := hexN_fin ⟨m, h⟩
  simp only at h1 h2
  obtain ⟨hl, he⟩ := List.getElem?_eq_some_iff.1 h1
  have h3 : ((UInt8.ofNat (hexN (m : Int)).toNat).toNat : Int) = hexN (m : Int) := by omega
  rw [← h3, ← he]
  simp [ByteArray.getElem_eq_getElem_data]

set_option maxRecDepth 20000 in
set_option maxHeartbeats 2000000 in
theorem r01Hex_any (v : Value) (l : List UInt8) (w : World) (h : Bytes w v l) (hl : l.length ≤ 109951162) :
    Calls Tryz.prog 122 #[v] w fun e w' => e = .returned (str (hexS l)) ∧ Fr (fun _ => False) w w' := by
  obtain ⟨a, cap, rfl, -, -, hx⟩ := h.form
  have HX := Lib.hid hx
  obtain ⟨R, hR⟩ : ∃ R, R = hexS l := ⟨_, rfl⟩
  rw [← hR]
  have HR := Lib.hid hR
  clear h hx hR
  go_enter Tryz.func122, Tryz.ntmps122
  go_wp2_with fail
  go_loopg [3, 4] l.length (fun g s i wr => ∃ (j L : Nat) (a1 : Option Addr) (c1 : Nat), g = l.length - j ∧ j ≤ l.length ∧ s = .slice a1 L c1 ∧ i = .int .i64 j ∧ L = (hexS (l.take j)).length ∧ wr.ownsRow w.heap.size 5 1 (.slice a1 L c1) L (Lib.byteCells (hexS (l.take j))) ∧ Fr (fun _ => False) w wr)
  case atStart => exact ⟨0, 0, none, 0, rfl, Nat.zero_le _, rfl, rfl, rfl, ⟨rfl, .inl ⟨rfl, rfl⟩⟩, Fr.refl _⟩
  case round =>
    obtain ⟨j, L, a1, c1, hg, hj, rfl, rfl, hL, hO, F⟩ := hrel
    have HG := Lib.hid hg
    have HL := Lib.hid hL
    have HO := Lib.hid hO
    have HF := Lib.hid F
    have hLl : L ≤ 300000000 := by rw [hL, hexS_len, List.length_take]; omega
    clear hg hL hO
    by_cases hjl : j < l.length
    · obtain ⟨b, off, rfl, hy⟩ := HX.out (by omega)
      obtain ⟨x, hxj⟩ : ∃ x, l[j]? = some x := ⟨_, List.getElem?_eq_getElem hjl⟩
      have ex := F.cell (hy j x hxj) (fun h => h)
      have HT := Lib.hid (hexS_take hxj)
      have hx256 := x.toNat_lt
      obtain ⟨y, hyx⟩ : ∃ y, y = x.toNat := ⟨_, rfl⟩
      rw [← hyx] at ex hx256
      obtain ⟨q, hq⟩ : ∃ q, q = y / 16 := ⟨_, rfl⟩
      obtain ⟨r, hr⟩ : ∃ r, r = y % 16 := ⟨_, rfl⟩
      have hq16 : q < 16 := by omega
      have hr16 : r < 16 := by omega
      have hqi : (y : Int) / 16 = (q : Int) := by omega
      have hri : (y : Int) % 16 = (r : Int) := by omega
      have hh : hex1 x = [UInt8.ofNat (hexN (q : Int)).toNat, UInt8.ofNat (hexN (r : Int)).toNat] := by
        unfold hex1
        rw [← hyx, hqi, ← hr]
      have i1 := hexL_index q hq16
      have i2 := hexL_index r hr16
      have k1 := hexN_fin ⟨q, hq16⟩
      have k2 := hexN_fin ⟨r, hr16⟩
      simp only at k1 k2
      generalize hexN (q : Int) = d1 at *
      generalize hexN (r : Int) = d2 at *
      have FD : Fr (fun _ => False) wr wr.drew := (Fr.refl wr).drew
      have hsrc : Bytes (wr.drew.alloc (.cells #[.int .u8 d1, .int .u8 d2] 5)) (.slice (some ⟨wr.drew.heap.size, 0, none⟩) 2 2) [UInt8.ofNat d1.toNat, UInt8.ofNat d2.toNat] := by
        have BX := Blk.new wr.drew 5 #[.int .u8 d1, .int .u8 d2]
        have e1 : ((UInt8.ofNat d1.toNat).toNat : Int) = d1 := by omega
        have e2 : ((UInt8.ofNat d2.toNat).toNat : Int) = d2 := by omega
        have ec : (#[.int .u8 d1, .int .u8 d2] : Array Value) = (Lib.byteCells [UInt8.ofNat d1.toNat, UInt8.ofNat d2.toNat]).toArray := by
          simp only [Lib.byteCells, List.map_cons, List.map_nil, e1, e2]
        have BX' : Blk (wr.drew.alloc (.cells #[.int .u8 d1, .int .u8 d2] 5)) wr.drew.heap.size 5 (Lib.byteCells [UInt8.ofNat d1.toNat, UInt8.ofNat d2.toNat]).toArray := by rw [← ec]; exact BX
        exact Vals.of_block BX' (by simp [Lib.byteCells]; unfold maxLen; omega)
      have F3 : Fr (fun _ => False) wr.drew (wr.drew.alloc (.cells #[.int .u8 d1, .int .u8 d2] 5)) := (Fr.refl wr.drew).alloc _
      obtain ⟨v4, w4, hr4, ho4, F4, _⟩ := append_bytes (ownsRow_fr (ownsRow_fr HO.out FD (fun _ _ h => h)) F3 (fun _ _ h => h)) (some ⟨wr.drew.heap.size, 0, none⟩) 2 2 _ hsrc (by omega) (Nat.le_trans (F.trans FD).size F3.size)
      have hvb := (Vals.of_own HO.out).2
      have HF4 := Lib.hid (((F.trans FD).trans F3).trans' F4 (fun i hi e => by have := hvb i e; omega))
      obtain ⟨a4, m4, c4, rfl, rfl⟩ := own_shape ho4
      have hT2 := HT.out
      rw [hh] at hT2
      rw [← hT2] at ho4
      have HO4 := Lib.hid ho4
      have HRUN := Lib.hid hr4
      have HT2 := Lib.hid hT2
      have q1 : (0 : Int) ≤ (j : Int) := by omega
      have q2 : (j : Int) < (l.length : Int) := by omega
      have hti : (y : Int).tmod 16 = (r : Int) := by rw [Int.tmod_eq_emod_of_nonneg (by omega)]; exact hri
      have w1 : IntKind.u8.wrap (q : Int) = (q : Int) := by simp [IntKind.wrap, IntKind.signed, IntKind.bits]; omega
      have w2 : IntKind.u8.wrap (r : Int) = (r : Int) := by simp [IntKind.wrap, IntKind.signed, IntKind.bits]; omega
      clear hy hxj hyx hq hr hh FD k1 k2 hsrc F3 hr4 ho4 F4 hvb hT2 HT F
      go_upto_region 5 with fail
      go_region_law (first | (refine step_append_run (by rfl) (.tmp 11) (.tmp 24) 23 (by rfl) _ w4 (by exact HRUN.out) ?_) | fail)
      all_goals
        go_wp2_with fail
        go_roundg (l.length - (j + 1))
        case measure => rw [HG.out]; omega
        case rel => exact ⟨j + 1, L + 2, a4, c4, rfl, by omega, rfl, by go_num, by rw [HT2.out, List.length_append, ← HL.out]; rfl, HO4.out, HF4.out⟩
    · obtain rfl : j = l.length := by omega
      have q2 : ¬ (l.length : Int) < (l.length : Int) := by omega
      have hO2 := HO.out
      have hL2 := HL.out
      rw [List.take_length, ← HR.out] at hO2 hL2
      have hb := (Vals.of_own hO2).1
      have hcv := str_of hb
      clear hb hO2 hL2
      go_wp2_with fail
      go_ret
      exact ⟨rfl, HF.out⟩
end Go.Proofs.YtgffhiopbnkjbaaGreatDoor

namespace Go.Q
open Go Go.RowKit
theorem textRead_err {l : List UInt8} {e : Int} (h : textReadS l = .error e) : e ≠ 0 := by
  unfold textReadS at h
  split at h
  · rename_i e' he
    cases h
    exact Go.Proofs.YtgffhiopbnkjbaaGreatDoor.readS_err he
  · split at h
    · cases h; decide
    · split at h
      · cases h; decide
      · split at h
        · cases h
        · cases h; decide
theorem oid_arcs {o : List Int} (ho : oidOk o = true) : ∀ n ∈ o, 0 ≤ n ∧ n ≤ 2147483647 := by
  intro n hn
  simp only [oidOk, Bool.and_eq_true, decide_eq_true_eq] at ho
  have := List.all_eq_true.1 ho.1.2 n hn
  simp only [arcOk, decide_eq_true_eq] at this
  omega
end Go.Q
namespace Go.Proofs.YtgffhiopbnkjbaaGreatDoor
open Go Go.RowKit Go.Q
set_option linter.unusedSimpArgs false

set_option maxRecDepth 20000 in
set_option maxHeartbeats 1000000 in
theorem r14Text_any (v : Value) (b : List UInt8) (w : World) (h : Bytes w v b) (hl : b.length ≤ 16777216) :
    Calls Tryz.prog 27 #[v] w fun e w' => WordsOut w' b e ∧ Fr (fun _ => False) w w' := by
  obtain ⟨a, cap, rfl, -⟩ := h.form
  obtain ⟨z, hz⟩ : ∃ z, z = w.heap.size := ⟨_, rfl⟩
  have BZ := Blk.new w 25 #[.int .i64 0, .slice none 0 0]
  have F0 : Fr (fun _ => False) w (w.alloc (.cells #[.int .i64 0, .slice none 0 0] 25)) := (Fr.refl w).alloc _
  rw [← hz] at BZ
  have hzw : ∀ k, k < w.heap.size → k = z → False := fun k hk e => by omega
  have HZ := Lib.hid hz
  have hT := r06Read_any _ b 0 w _ h F0 (by omega) hl
  unfold RTextOut at hT
  rw [List.drop_zero] at hT
  have HT := Lib.hid hT
  have HF0 := Lib.hid F0
  have HZW := Lib.hid hzw
  clear h hz F0 hzw hT
  go_enter Tryz.func27, Tryz.ntmps27
  go_upto_region 1 with fail
  rw [← HZ.out]
  generalize (w.alloc (.cells #[.int .i64 0, .slice none 0 0] 25)) = w0 at *
  go_wp2_with fail
  refine HT.out.mono ?_
  rintro e w1 ⟨hout, F⟩
  replace BZ := BZ.fr F (fun h => h)
  have HF := Lib.hid (HF0.out.trans F)
  clear F HF0 HT
  cases hr : textReadS b with
  | error x =>
    rw [hr] at hout
    subst hout
    have hx := textRead_err hr
    have hx1 : (x == 0) = false := beq_eq_false_iff_ne.2 hx
    have HRR := Lib.hid hr
    go_upto_region 2 with fail
    have BZ4 := BZ.alloc (.cells #[.int .i64 0, .slice none 0 0] 25)
    have BY4 := Blk.new w1 25 #[.int .i64 0, .slice none 0 0]
    have F4 : Fr (fun _ => False) w1 (w1.alloc (.cells #[.int .i64 0, .slice none 0 0] 25)) := (Fr.refl w1).alloc _
    obtain ⟨y, hy⟩ : ∃ y, y = w1.heap.size := ⟨_, rfl⟩
    rw [← hy] at BY4 ⊢
    clear hy
    generalize (w1.alloc (.cells #[.int .i64 0, .slice none 0 0] 25)) = w4 at *
    have y0 := BY4.cell 0
    have y1 := BY4.cell 1
    simp only [List.getElem?_toArray, List.getElem?_cons_succ, List.getElem?_cons_zero] at y0 y1
    have SZ := BZ4.cell
    have ZZ := BZ4.frozen
    obtain ⟨BZ5, F5⟩ := set2 BZ4 (.int .i64 0) (.slice none 0 0)
    have n0 := BZ5.cell 0
    have n1 := BZ5.cell 1
    simp only [List.getElem?_toArray, List.getElem?_cons_succ, List.getElem?_cons_zero] at n0 n1
    have HF5 := Lib.hid ((HF.out.trans F4).trans' F5 HZW.out)
    clear hr F4 BZ BZ4 BZ5 F5 BY4 hx
    go_wp2_with fail
    refine bodyPost_ret (v := .tuple #[.agg #[.int .i64 0, .slice none 0 0], .bool false]) (by simp [results, Tryz.results27, go_sem, n0, n1]) rfl ⟨?_, HF5.out⟩
    unfold WordsOut
    rw [HRR.out]
  | ok kbn =>
    obtain ⟨k, t, n⟩ := kbn
    rw [hr] at hout
    obtain ⟨u, rfl, hu⟩ := hout
    have HRR := Lib.hid hr
    obtain ⟨au, cu, rfl, -⟩ := hu.form
    go_upto_region 2 with fail
    have BZ4 := BZ.alloc (.cells #[.int .i64 k, .slice au t.length cu] 25)
    have BY4 := Blk.new w1 25 #[.int .i64 k, .slice au t.length cu]
    have F4 : Fr (fun _ => False) w1 (w1.alloc (.cells #[.int .i64 k, .slice au t.length cu] 25)) := (Fr.refl w1).alloc _
    obtain ⟨y, hy⟩ : ∃ y, y = w1.heap.size := ⟨_, rfl⟩
    rw [← hy] at BY4 ⊢
    clear hy
    generalize (w1.alloc (.cells #[.int .i64 k, .slice au t.length cu] 25)) = w4 at *
    have y0 := BY4.cell 0
    have y1 := BY4.cell 1
    simp only [List.getElem?_toArray, List.getElem?_cons_succ, List.getElem?_cons_zero] at y0 y1
    have SZ := BZ4.cell
    have ZZ := BZ4.frozen
    obtain ⟨BZ5, F5⟩ := set2 BZ4 (.int .i64 k) (.slice au t.length cu)
    have n0 := BZ5.cell 0
    have n1 := BZ5.cell 1
    simp only [List.getElem?_toArray, List.getElem?_cons_succ, List.getElem?_cons_zero] at n0 n1
    have HF5 := Lib.hid ((HF.out.trans F4).trans' F5 HZW.out)
    have HB := Lib.hid (hu.old HF5.out)
    clear hr F4 BZ BZ4 BZ5 F5 BY4 hu
    go_wp2_with fail
    refine bodyPost_ret (v := .tuple #[.agg #[.int .i64 k, .slice au t.length cu], .bool true]) (by simp [results, Tryz.results27, go_sem, n0, n1]) rfl ⟨?_, HF5.out⟩
    unfold WordsOut
    rw [HRR.out]
    exact ⟨_, rfl, HB.out⟩

set_option maxRecDepth 20000 in
set_option maxHeartbeats 1000000 in
theorem r14partKey_any (x y : Value) (o : List Int) (b : List UInt8) (w : World) (hx : Ints w x o) (hy : Bytes w y b) (ho : oidOk o = true) (hl : b.length ≤ 10000000) :
    Calls Tryz.prog 83 #[.agg #[x, y]] w fun e w' => e = .returned (str (attrKeyS o b)) ∧ Fr (fun _ => False) w w' := by
  obtain ⟨ax, cx, rfl, -⟩ := Ints.form hx
  obtain ⟨ay, cy, rfl, -⟩ := Vals.form hy
  obtain ⟨z, hz⟩ : ∃ z, z = w.heap.size := ⟨_, rfl⟩
  have BZ := Blk.new w 63 #[.slice ax o.length cx, .slice ay b.length cy]
  have F0 : Fr (fun _ => False) w (w.alloc (.cells #[.slice ax o.length cx, .slice ay b.length cy] 63)) := (Fr.refl w).alloc _
  have HT := Lib.hid (r04Text_any _ o _ (hx.old F0) (oid_arcs ho) (by have := (nums_ok ho).2.1; omega))
  have HY := Lib.hid (hy.old F0)
  rw [← hz] at BZ
  have HF0 := Lib.hid F0
  have HZ := Lib.hid hz
  have hk : attrKeyS o b = oidTextS o ++ (match textReadS b with | .ok (k, t, _) => [61, 116] ++ hexS (foldKeyS k t) | .error _ => [61, 98] ++ hexS b) := rfl
  have HK := Lib.hid hk
  have ho0 := Lib.hid ho
  clear hx hy F0 hz ho hk
  have hol : o.length ≤ 32 := (nums_ok ho0.out).2.1
  have hot : (oidTextS o).length ≤ 1000 := by
    have hall := ho0.out
    simp only [oidOk, Bool.and_eq_true, decide_eq_true_eq] at hall
    have := oidText_len (o := o) (fun n hn => by
      have := List.all_eq_true.1 hall.1.2 n hn
      simp only [arcOk, decide_eq_true_eq] at this
      omega)
    omega
  have hos : (ByteArray.mk (oidTextS o).toArray).size = (oidTextS o).length := by simp [ByteArray.size]
  generalize oidTextS o = ot at *
  go_enter Tryz.func83, Tryz.ntmps83
  go_upto_region 1 with fail
  rw [← HZ.out]
  generalize (w.alloc (.cells #[.slice ax o.length cx, .slice ay b.length cy] 63)) = w0 at *
  have z0 := BZ.cell 0
  simp at z0
  go_wp2_with fail
  refine HT.out.mono ?_
  rintro e w1 ⟨rfl, F1⟩
  have BZ1 := BZ.fr F1 (fun h => h)
  have z1 := BZ1.cell 1
  simp at z1
  have HY1 := Lib.hid (HY.out.old F1)
  have HF1 := Lib.hid (HF0.out.trans F1)
  clear HT HY HF0 F1 z0 BZ
  go_wp2_with fail
  refine (r14Text_any _ b w1 HY1.out (by omega)).mono ?_
  rintro e w2 ⟨hout, F2⟩
  have BZ2 := BZ1.fr F2 (fun h => h)
  have HY2 := Lib.hid (HY1.out.old F2)
  have HF2 := Lib.hid (HF1.out.trans F2)
  unfold WordsOut at hout
  clear HY1 HF1 F2 z1 BZ1
  cases hr : textReadS b with
  | error x =>
    rw [hr] at hout
    subst hout
    have F3 : Fr (fun _ => False) w2 (w2.alloc (.cells #[.int .i64 0, .slice none 0 0] 25)) := (Fr.refl w2).alloc _
    have BZ3 := BZ2.fr F3 (fun h => h)
    have z1 := BZ3.cell 1
    simp only [List.getElem?_toArray, List.getElem?_cons_succ, List.getElem?_cons_zero] at z1
    have HX := Lib.hid (r01Hex_any _ b _ (HY2.out.old F3) (by omega))
    have HF3 := Lib.hid (HF2.out.trans F3)
    have hkk := HK.out
    rw [hr] at hkk
    have HKK := Lib.hid hkk
    have hhl := hexS_len b
    have hhs : (ByteArray.mk (hexS b).toArray).size = (hexS b).length := by simp [ByteArray.size]
    clear hr hkk HY2 HF2 F3 BZ2 BZ3
    generalize hexS b = hb at *
    go_wp2_with fail
    refine HX.out.mono ?_
    rintro e w4 ⟨rfl, F4⟩
    go_wp2_with fail
    go_ret
    refine ⟨congrArg (fun x : ByteArray => Ending.returned (.string x)) ?_, HF3.out.trans F4⟩
    rw [HKK.out, show ot ++ ([61, 98] ++ hb) = ((ot ++ [61]) ++ [98]) ++ hb from by simp, ← ba_cat, ← ba_cat, ← ba_cat]
  | ok kbn =>
    obtain ⟨k, t, n⟩ := kbn
    rw [hr] at hout
    obtain ⟨u, rfl, hu⟩ := hout
    obtain ⟨hrt, htl⟩ := textRead_ok hr
    obtain ⟨au, cu, rfl, -⟩ := hu.form
    have F3 : Fr (fun _ => False) w2 (w2.alloc (.cells #[.int .i64 k, .slice au t.length cu] 25)) := (Fr.refl w2).alloc _
    have HX := Lib.hid (r13Key_any k _ t _ (hu.old F3) hrt (by omega))
    have HF3 := Lib.hid (HF2.out.trans F3)
    have hkk := HK.out
    rw [hr] at hkk
    simp only at hkk
    have HKK := Lib.hid hkk
    have hfl := foldKey_len k t
    clear hr hkk HY2 HF2 F3 BZ2 hu hrt
    generalize foldKeyS k t = fk at *
    go_upto_region 4 with fail
    have BY := Blk.new w2 25 #[.int .i64 k, .slice au t.length cu]
    obtain ⟨y, hy⟩ : ∃ y, y = w2.heap.size := ⟨_, rfl⟩
    rw [← hy] at BY ⊢
    clear hy
    generalize (w2.alloc (.cells #[.int .i64 k, .slice au t.length cu] 25)) = w3 at *
    have y0 := BY.cell 0
    have y1 := BY.cell 1
    simp only [List.getElem?_toArray, List.getElem?_cons_succ, List.getElem?_cons_zero] at y0 y1
    go_wp2_with fail
    refine HX.out.mono ?_
    rintro e w4 ⟨rfl, F4⟩
    obtain ⟨cp, wc, hcv, hbv, FC, -⟩ := bytes_of_str w4 fk (by omega)
    have HXX := Lib.hid (r01Hex_any _ fk wc hbv (by omega))
    have HF4 := Lib.hid ((HF3.out.trans F4).trans FC)
    have hhl := hexS_len fk
    have hhs : (ByteArray.mk (hexS fk).toArray).size = (hexS fk).length := by simp [ByteArray.size]
    clear HX HF3 F4 hbv FC BY y0 y1
    generalize hexS fk = hb at *
    go_wp2_with fail
    refine HXX.out.mono ?_
    rintro e w5 ⟨rfl, F5⟩
    go_wp2_with fail
    go_ret
    refine ⟨congrArg (fun x : ByteArray => Ending.returned (.string x)) ?_, HF4.out.trans F5⟩
    rw [HKK.out, show ot ++ ([61, 116] ++ hb) = ((ot ++ [61]) ++ [116]) ++ hb from by simp, ← ba_cat, ← ba_cat, ← ba_cat]
end Go.Proofs.YtgffhiopbnkjbaaGreatDoor

namespace Go.Q
open Go
abbrev Key1 := List UInt8
theorem k_lt_of {a b : Key1} (h : a ≤ b) (hn : a ≠ b) : a < b := Std.lt_of_le_of_ne h hn
/-- Is a key behind the last one? -/
def behindB (last : Option Key1) (k : Key1) : Bool := match last with | none => true | some l => decide (l < k)
/-- Is it less than the best one so far? -/
def betterB (best : Option Key1) (k : Key1) : Bool := match best with | none => true | some b => decide (k < b)
def pickStep (last best : Option Key1) (k : Key1) : Option Key1 := if (behindB last k && betterB best k) = true then some k else best
def pickS (last : Option Key1) (ks : List Key1) : Option Key1 := ks.foldl (pickStep last) none
theorem pickS_snoc (last : Option Key1) (ks : List Key1) (k : Key1) : pickS last (ks ++ [k]) = pickStep last (pickS last ks) k := by
  unfold pickS
  simp [List.foldl_append]
theorem pickS_spec (last : Option Key1) : ∀ ks : List Key1, match pickS last ks with
    | none => ∀ k ∈ ks, behindB last k = false
    | some m => m ∈ ks ∧ behindB last m = true ∧ ∀ k ∈ ks, behindB last k = true → m ≤ k := by
  intro ks
  induction hn : ks.length generalizing ks with
  | zero =>
    obtain rfl := List.length_eq_zero_iff.1 hn
    intro k hk
    cases hk
  | succ n ih =>
    have hne : ks ≠ [] := fun e => by simp [e] at hn
    obtain ⟨ts, k, rfl⟩ : ∃ ts k, ks = ts ++ [k] := ⟨ks.dropLast, ks.getLast hne, (List.dropLast_concat_getLast hne).symm⟩
    have hi := ih ts (by simpa using hn)
    rw [pickS_snoc]
    cases hp : pickS last ts with
    | none =>
      rw [hp] at hi
      simp only at hi
      unfold pickStep betterB
      cases hb : behindB last k with
      | true =>
        simp only [Bool.and_self, if_true]
        refine ⟨by simp, hb, fun x hx hxb => ?_⟩
        rcases List.mem_append.1 hx with h | h
        · rw [hi x h] at hxb; cases hxb
        · rw [List.mem_singleton.1 h]; exact Std.le_refl k
      | false =>
        simp only [Bool.false_and, Bool.false_eq_true, if_false]
        intro x hx
        rcases List.mem_append.1 hx with h | h
        · exact hi x h
        · rw [List.mem_singleton.1 h]; exact hb
    | some m =>
      rw [hp] at hi
      simp only at hi
      obtain ⟨h1, h2, h3⟩ := hi
      unfold pickStep betterB
      by_cases hc : (behindB last k && decide (k < m)) = true
      · simp only [hc, if_true]
        rw [Bool.and_eq_true, decide_eq_true_eq] at hc
        refine ⟨by simp, hc.1, fun x hx hxb => ?_⟩
        rcases List.mem_append.1 hx with h | h
        · exact Std.le_of_lt (Std.lt_of_lt_of_le hc.2 (h3 x h hxb))
        · rw [List.mem_singleton.1 h]; exact Std.le_refl k
      · simp only [if_neg hc]
        refine ⟨List.mem_append_left _ h1, h2, fun x hx hxb => ?_⟩
        rcases List.mem_append.1 hx with h | h
        · exact h3 x h hxb
        · rw [List.mem_singleton.1 h] at hxb ⊢
          rw [hxb, Bool.true_and, decide_eq_true_eq] at hc
          exact Std.not_lt.1 hc
theorem up_get {D : List Key1} (hD : D.Pairwise (· < ·)) {i j : Nat} {x y : Key1} (hx : D[i]? = some x) (hy : D[j]? = some y) (h : x < y) : i < j := by
  rcases Nat.lt_or_ge i j with hl | hl
  · exact hl
  · obtain ⟨hi, rfl⟩ := List.getElem?_eq_some_iff.1 hx
    obtain ⟨hj, rfl⟩ := List.getElem?_eq_some_iff.1 hy
    rcases Nat.lt_or_ge j i with h2 | h2
    · exact absurd (Std.lt_trans h (List.pairwise_iff_getElem.1 hD j i hj hi h2)) (Std.lt_irrefl)
    · have : i = j := by omega
      subst this
      exact absurd h (Std.lt_irrefl)
/-- The last one of the first j. -/
def lastOf (D : List Key1) (j : Nat) : Option Key1 := if j = 0 then none else D[j - 1]?
theorem pick_next {D ks : List Key1} (hD : D.Pairwise (· < ·)) (hm : ∀ x, x ∈ D ↔ x ∈ ks) (j : Nat) (hj : j ≤ D.length) : pickS (lastOf D j) ks = D[j]? := by
  have hbeh : ∀ i x, D[i]? = some x → (behindB (lastOf D j) x = true ↔ j ≤ i) := by
    intro i x hx
    unfold lastOf
    by_cases h0 : j = 0
    · subst h0; simp [behindB]
    · rw [if_neg h0]
      obtain ⟨y, hy⟩ : ∃ y, D[j - 1]? = some y := ⟨_, List.getElem?_eq_getElem (by omega)⟩
      rw [hy]
      simp only [behindB, decide_eq_true_eq]
      constructor
      · intro h
        have := up_get hD hy hx h
        omega
      · intro h
        obtain ⟨hi, rfl⟩ := List.getElem?_eq_some_iff.1 hx
        obtain ⟨hj1, rfl⟩ := List.getElem?_eq_some_iff.1 hy
        exact List.pairwise_iff_getElem.1 hD (j - 1) i hj1 hi (by omega)
  have hs := pickS_spec (lastOf D j) ks
  rcases Nat.lt_or_ge j D.length with hl | hl
  · obtain ⟨y, hy⟩ : ∃ y, D[j]? = some y := ⟨_, List.getElem?_eq_getElem hl⟩
    have hyk := (hm y).1 (List.mem_of_getElem? hy)
    have hyb := (hbeh j y hy).2 (Nat.le_refl _)
    cases hp : pickS (lastOf D j) ks with
    | none =>
      rw [hp] at hs
      rw [hs y hyk] at hyb
      cases hyb
    | some m =>
      rw [hp] at hs
      obtain ⟨h1, h2, h3⟩ := hs
      obtain ⟨i, hi⟩ := List.mem_iff_getElem?.1 ((hm m).2 h1)
      have hji := (hbeh i m hi).1 h2
      have hle := h3 y hyk hyb
      rcases Nat.lt_or_ge j i with h4 | h4
      · obtain ⟨hi', rfl⟩ := List.getElem?_eq_some_iff.1 hi
        obtain ⟨hj', rfl⟩ := List.getElem?_eq_some_iff.1 hy
        have := List.pairwise_iff_getElem.1 hD j i hj' hi' h4
        exact absurd (Std.lt_of_lt_of_le this hle) (Std.lt_irrefl)
      · have : i = j := by omega
        rw [← this, hi]
  · rw [List.getElem?_eq_none hl]
    cases hp : pickS (lastOf D j) ks with
    | none => rfl
    | some m =>
      rw [hp] at hs
      obtain ⟨h1, h2, -⟩ := hs
      obtain ⟨i, hi⟩ := List.mem_iff_getElem?.1 ((hm m).2 h1)
      have := (hbeh i m hi).1 h2
      have := (List.getElem?_eq_some_iff.1 hi).1
      omega
/-! ### Sorted, each once -/
theorem sortS_up (ks : List Key1) : (sortS ks).Pairwise (· ≤ ·) := by
  have := List.pairwise_mergeSort (le := fun x y : Key1 => decide (x ≤ y)) (fun a b c h1 h2 => by
    simp only [decide_eq_true_eq] at h1 h2 ⊢
    exact Std.le_trans h1 h2) (fun a b => by
    rcases Std.le_total (a := a) (b := b) with h | h
    · simp [h]
    · simp [h]) ks
  exact this.imp (fun h => by simpa using h)
theorem get_bang {S : List Key1} {m : Nat} (h : m < S.length) : S.toArray[m]! = S[m] := by simp [getElem!_pos, h]
theorem compact_up {S : List Key1} (hS : S.Pairwise (· ≤ ·)) : ∀ m, m ≤ S.length → (Lib.compactUpTo S.toArray m).Pairwise (· < ·) ∧ ∀ x, x ∈ Lib.compactUpTo S.toArray m ↔ x ∈ S.take m
  | 0, _ => by simp [Lib.compactUpTo]
  | m + 1, hm => by
    obtain ⟨h1, h2⟩ := compact_up hS m (by omega)
    rw [Lib.compactUpTo_succ]
    have hml : m < S.length := by omega
    have ht : S.take (m + 1) = S.take m ++ [S[m]] := by rw [List.take_add_one, List.getElem?_eq_getElem hml]; rfl
    rw [ht, get_bang hml]
    by_cases hk : Lib.keeps S.toArray m = true
    · rw [if_pos hk]
      refine ⟨?_, fun x => by simp only [List.mem_append, h2]⟩
      refine List.pairwise_append.2 ⟨h1, by simp, fun x hx y hy => ?_⟩
      rw [List.mem_singleton.1 hy]
      have hx2 := (h2 x).1 hx
      obtain ⟨i, hi⟩ := List.mem_iff_getElem?.1 hx2
      rw [List.getElem?_take] at hi
      split at hi
      · rename_i him
        obtain ⟨hil, rfl⟩ := List.getElem?_eq_some_iff.1 hi
        unfold Lib.keeps at hk
        have hm0 : m ≠ 0 := by omega
        simp only [decide_eq_true_eq, hm0, false_or] at hk
        rw [get_bang hml, get_bang (show m - 1 < S.length by omega)] at hk
        have hle : S[i] ≤ S[m - 1] := by
          rcases Nat.lt_or_ge i (m - 1) with h | h
          · exact List.pairwise_iff_getElem.1 hS i (m - 1) hil (by omega) h
          · have : i = m - 1 := by omega
            subst this
            exact Std.le_refl _
        have hle2 : S[m - 1] ≤ S[m] := List.pairwise_iff_getElem.1 hS (m - 1) m (by omega) hml (by omega)
        exact Std.lt_of_le_of_lt hle (k_lt_of hle2 (fun e => hk e.symm))
      · cases hi
    · rw [if_neg hk, List.append_nil]
      refine ⟨h1, fun x => ?_⟩
      rw [h2, List.mem_append, List.mem_singleton]
      constructor
      · exact .inl
      · rintro (h | rfl)
        · exact h
        · unfold Lib.keeps at hk
          simp only [decide_eq_true_eq, not_or, Classical.not_not] at hk
          obtain ⟨hm0, he⟩ := hk
          rw [get_bang hml, get_bang (show m - 1 < S.length by omega)] at he
          rw [he]
          exact List.mem_iff_getElem?.2 ⟨m - 1, by rw [List.getElem?_take, if_pos (by omega), List.getElem?_eq_getElem (by omega)]⟩
/-- A step's keys, sorted, each once. -/
def keysS (l : List Part) : List Key1 := Lib.compact (sortS (partKeys l))
theorem keysS_up (l : List Part) : (keysS l).Pairwise (· < ·) ∧ ∀ x, x ∈ keysS l ↔ x ∈ partKeys l := by
  obtain ⟨h1, h2⟩ := compact_up (sortS_up (partKeys l)) (sortS (partKeys l)).length (Nat.le_refl _)
  refine ⟨h1, fun x => ?_⟩
  have := h2 x
  rw [List.take_length] at this
  exact this.trans (by simp [sortS])
theorem keysS_next (l : List Part) (j : Nat) (hj : j ≤ (keysS l).length) : pickS (lastOf (keysS l) j) (partKeys l) = (keysS l)[j]? := pick_next (keysS_up l).1 (keysS_up l).2 j hj
theorem join_take (c : UInt8) {ks : List Key1} {j : Nat} {k : Key1} (h : ks[j]? = some k) : Lib.join (ks.take (j + 1)) [c] = (if j = 0 then [] else Lib.join (ks.take j) [c] ++ [c]) ++ k := by
  induction ks generalizing j with
  | nil => simp at h
  | cons x t ih =>
    cases j with
    | zero =>
      simp at h
      subst h
      simp [Lib.join]
    | succ j =>
      rw [List.getElem?_cons_succ] at h
      have e := ih h
      rw [List.take_succ_cons, List.take_succ_cons]
      cases t with
      | nil => simp at h
      | cons y s =>
        rw [List.take_succ_cons] at e ⊢
        have e1 : ∀ z, Lib.join (x :: y :: z) [c] = x ++ ([c] ++ Lib.join (y :: z) [c]) := fun z => by simp [Lib.join, List.intercalate]
        rw [e1, e, if_neg (Nat.succ_ne_zero j)]
        cases j with
        | zero => simp [Lib.join]
        | succ j =>
          rw [List.take_succ_cons, e1, if_neg (Nat.succ_ne_zero j)]
          simp
end Go.Q

namespace Go.Q
open Go
theorem behind_eq (o : Option Key1) (p : Key1) : behindB o p = (!o.isSome || decide (o.getD [] < p)) := by cases o <;> rfl
theorem better_eq (o : Option Key1) (p : Key1) : betterB o p = (!o.isSome || decide (p < o.getD [])) := by cases o <;> rfl
theorem partKeys_snoc {r : List Part} {k : Nat} {p : Part} (h : r[k]? = some p) : partKeys (r.take (k + 1)) = partKeys (r.take k) ++ [attrKeyS p.o p.b] := by
  unfold partKeys
  rw [List.take_add_one, h]
  simp
theorem pick_yes {lo bo : Option Key1} {p : Key1} (h1 : behindB lo p = true) (h2 : betterB bo p = true) : pickStep lo bo p = some p := by
  unfold pickStep
  rw [h1, h2]
  rfl
theorem pick_no1 {lo bo : Option Key1} {p : Key1} (h1 : behindB lo p = false) : pickStep lo bo p = bo := by
  unfold pickStep
  rw [h1]
  rfl
theorem pick_no2 {lo bo : Option Key1} {p : Key1} (h1 : betterB bo p = false) : pickStep lo bo p = bo := by
  unfold pickStep
  rw [h1, Bool.and_false]
  rfl
theorem keysS_len (r : List Part) : (keysS r).length ≤ r.length := by
  have hcl := Lib.compact_length_le (sortS (partKeys r))
  have hsl : (sortS (partKeys r)).length = r.length := by simp [sortS, partKeys]
  unfold keysS
  omega
theorem keysS_mem {r : List Part} {x : Key1} (h : x ∈ keysS r) : ∃ p ∈ r, x = attrKeyS p.o p.b := by
  have h3 := sort_mem (compact_mem h)
  obtain ⟨p, hp, rfl⟩ := List.mem_map.1 h3
  exact ⟨p, hp, rfl⟩
theorem lastOf_isSome {D : List Key1} {c : Nat} (hc : c ≤ D.length) : (lastOf D c).isSome = decide (c ≠ 0) := by
  unfold lastOf
  by_cases h0 : c = 0
  · rw [if_pos h0, decide_eq_false (fun h => h h0)]
    rfl
  · rw [if_neg h0, decide_eq_true h0, List.getElem?_eq_getElem (by omega)]
    rfl
theorem lastOf_succ {D : List Key1} {c : Nat} : lastOf D (c + 1) = D[c]? := by
  unfold lastOf
  rw [if_neg (Nat.succ_ne_zero c), Nat.add_sub_cancel]
/-- A front's length. -/
theorem joinF_len (c : UInt8) (M N : Nat) {ks : List Key1} (h : ∀ k ∈ ks, k.length ≤ M) (hn : ks.length ≤ N) (j : Nat) : (Lib.join (ks.take j) [c]).length ≤ N * (M + 1) := by
  have := join_len c M (ks.take j) (fun k hk => h k (List.mem_of_mem_take hk))
  have h2 : (ks.take j).length * (M + 1) ≤ N * (M + 1) := Nat.mul_le_mul_right _ (by rw [List.length_take]; omega)
  omega
theorem less_of {x y : Key1} : Op.bytesLess x y = decide (x < y) := Go.Proofs.bytesLess_eq x y
/-- Is it greater? As the walk reckons it. -/
theorem greater_of (x y : Key1) : (!(Op.bytesLess x y || x == y)) = decide (y < x) := by
  rw [less_of]
  by_cases h : y < x
  · rw [decide_eq_true h]
    have h1 : ¬ x < y := fun h2 => absurd (Std.lt_trans h h2) (Std.lt_irrefl)
    have h2 : x ≠ y := fun e => absurd (e ▸ h) (Std.lt_irrefl)
    rw [decide_eq_false h1, Bool.false_or]
    simpa using h2
  · rw [decide_eq_false h]
    rcases Classical.em (x = y) with rfl | hne
    · simp
    · have := k_lt_of (Std.not_lt.1 h) hne
      rw [decide_eq_true this]
      rfl
end Go.Q

namespace Go.Proofs.YtgffhiopbnkjbaaGreatDoor
open Go Go.RowKit Go.Q
set_option linter.unusedSimpArgs false

set_option maxRecDepth 20000 in
set_option maxHeartbeats 4000000 in
theorem r14Key_any (v : Value) (n : List (List Part)) (w : World) (h : NameAt w v n) (hf : ∀ r ∈ n, fewB r) (hok : nameOk n = true) :
    Calls Tryz.prog 46 #[v] w fun e w' => e = .returned (str (nameKeyS n)) ∧ Fr (fun _ => False) w w' := by
  have H := Lib.hid h
  obtain ⟨hn64, hrd⟩ := name_rdns hok
  have HRD := Lib.hid hrd
  obtain ⟨a, cap, rfl, hc, hm, -⟩ := h
  have hkl : ∀ k ∈ n.map rdnKeyS, k.length ≤ 2560017616 := fun k hk => by
    obtain ⟨r, hr, rfl⟩ := List.mem_map.1 hk
    exact rdnKey_len (hf r hr) (hrd r hr)
  have HPL := Lib.hid (joinF_len 47 2560017616 64 hkl (by rw [List.length_map]; exact hn64))
  have hJ : ∀ j, Lib.join ((n.map rdnKeyS).take j) [47] = Lib.join ((n.take j).map rdnKeyS) [47] := fun j => by rw [← List.map_take]
  have HNK := Lib.hid (show nameKeyS n = Lib.join ((n.map rdnKeyS).take n.length) [47] from by unfold nameKeyS; rw [List.take_of_length_le (by rw [List.length_map]; omega)])
  clear hkl hJ hok hrd
  go_enter Tryz.func46, Tryz.ntmps46
  go_wp2_with fail
  go_loopg [3, 4] n.length (fun g o i wr => ∃ j : Nat, g = n.length - j ∧ j ≤ n.length ∧ o = str (Lib.join ((n.map rdnKeyS).take j) [47]) ∧ i = .int .i64 j ∧ Fr (fun _ => False) w wr)
  case atStart => exact ⟨0, rfl, Nat.zero_le _, rfl, rfl, Fr.refl _⟩
  case round =>
    obtain ⟨j, hg, hj, rfl, rfl, F⟩ := hrel
    have HG := Lib.hid hg
    have HF := Lib.hid F
    obtain ⟨J, hJ⟩ : ∃ J, J = Lib.join ((n.map rdnKeyS).take j) [47] := ⟨_, rfl⟩
    have hJl : J.length ≤ 200000000000 := by rw [hJ]; have := HPL.out j; omega
    rw [← hJ]
    by_cases hjl : j < n.length
    · obtain ⟨a0, cap0, he, _, _, hx⟩ := H.out
      simp only [Value.slice.injEq, true_and] at he
      obtain ⟨rfl, rfl⟩ := he
      obtain ⟨b, off, rfl, hy⟩ := hx (by omega)
      obtain ⟨r, hr⟩ : ∃ r, n[j]? = some r := ⟨_, List.getElem?_eq_getElem hjl⟩
      obtain ⟨x, e0, hA⟩ := hy j r hr
      have hmem := List.mem_of_getElem? hr
      obtain ⟨hr16, hro⟩ := rdn_oids (HRD.out r hmem)
      have HRO := Lib.hid hro
      have HRF := Lib.hid (hf r hmem)
      obtain ⟨P, hP⟩ : ∃ P, P = if j = 0 then [] else J ++ [47] := ⟨_, rfl⟩
      have hnext : Lib.join ((n.map rdnKeyS).take (j + 1)) [47] = P ++ rdnKeyS r := by
        have := join_take 47 (ks := n.map rdnKeyS) (j := j) (k := rdnKeyS r) (by rw [List.getElem?_map, hr]; rfl)
        rw [this, hP, hJ]
      have hPl : P.length ≤ 200000000001 := by
        rw [hP]
        split
        · simp
        · rw [List.length_append]; simp; omega
      have HNX := Lib.hid hnext
      have HP := Lib.hid hP
      have HA := Lib.hid hA
      have HE0 := Lib.hid e0
      have HK2 := Lib.hid (show rdnKeyS r = Lib.join (keysS r) [43] from rfl)
      have hKl := keysS_len r
      have HNE := Lib.hid (fun c hc => keysS_next r c hc)
      have hkm : ∀ k ∈ keysS r, k.length ≤ 160001100 := fun k hk => by
        obtain ⟨p, hp, rfl⟩ := keysS_mem hk
        exact attrKey_len (hro p hp) (hf r hmem p hp)
      have HKM := Lib.hid hkm
      have HQL := Lib.hid (joinF_len 43 160001100 16 hkm (by omega))
      have r1 : (0 : Int) ≤ (j : Int) := by omega
      have r2 : (j : Int) < (n.length : Int) := by omega
      have hJ0 : j = 0 → J = [] := fun h => by rw [hJ, h]; simp [Lib.join]
      have HJ0 := Lib.hid hJ0
      clear hx hy hr hA hmem hro hP hnext hkm e0 hJ hg F hJ0
      obtain ⟨K, hK⟩ : ∃ K, K = keysS r := ⟨_, rfl⟩
      rw [← hK] at HK2 hKl HNE HKM HQL
      have hJs : (ByteArray.mk J.toArray).size = J.length := by simp [ByteArray.size]
      clear hK
      go_upto_region 5 with fail
      have hpos : j = 0 ∨ 0 < j := by omega
      rcases hpos with hj0 | hj0
      case' inl =>
        have q1 : decide ((0 : Int) < (j : Int)) = false := decide_eq_false (by omega)
        have q2 : decide (0 < j) = false := decide_eq_false (by omega)
        have hP0 : P = J := by rw [HP.out, if_pos hj0, HJ0.out hj0]
        clear HP HJ0 HPL hj0
        subst hP0
        go_upto_region 7 with fail
        clear q1 q2
      case' inr =>
        have q1 : (0 : Int) < (j : Int) := by omega
        have hP0 := HP.out
        rw [if_neg (by omega)] at hP0
        clear HP HJ0 HPL
        go_upto_region 7 with fail
        rw [show (Value.string ({ data := J.toArray } ++ { data := #[47] })) = str P from by rw [hP0]; exact congrArg Value.string (ba_cat _ _)]
        clear hP0 q1 hj0
      all_goals
        clear hJs hJl
        obtain ⟨wo, hwo⟩ : ∃ wo : World, wo = wr := ⟨_, rfl⟩
        obtain rfl := hwo
        go_wp2_with fail
        go_loopg [3, 5, 6] K.length (fun g o la an wr => ∃ c : Nat, g = K.length - c ∧ c ≤ K.length ∧ o = str (P ++ Lib.join (K.take c) [43]) ∧ la = str ((lastOf K c).getD []) ∧ an = .bool (lastOf K c).isSome ∧ Fr (fun _ => False) w wr)
        case atStart => exact ⟨0, rfl, Nat.zero_le _, by simp [Lib.join], rfl, rfl, HF.out⟩
        case round =>
          obtain ⟨c, hg, hcK, rfl, rfl, rfl, F⟩ := hrel
          have HG2 := Lib.hid hg
          have HF2 := Lib.hid F
          have hls := lastOf_isSome hcK
          have HLS := Lib.hid hls
          obtain ⟨lo, hlo⟩ : ∃ lo, lo = lastOf K c := ⟨_, rfl⟩
          have hN := HNE.out c hcK
          rw [← hlo] at hN HLS ⊢
          have HN2 := Lib.hid hN
          have HLO := Lib.hid hlo
          obtain ⟨Q, hQ⟩ : ∃ Q, Q = P ++ Lib.join (K.take c) [43] := ⟨_, rfl⟩
          have hQl : Q.length ≤ 300000000000 := by rw [hQ, List.length_append]; have := HQL.out c; omega
          rw [← hQ]
          have HQ := Lib.hid hQ
          obtain ⟨la, hla⟩ : ∃ la, la = lo.getD [] := ⟨_, rfl⟩
          obtain ⟨an, han⟩ : ∃ an, an = lo.isSome := ⟨_, rfl⟩
          rw [← hla, ← han]
          have HLA := Lib.hid hla
          have HAN := Lib.hid han
          clear hg F hls hN hlo hQ hla han
          obtain ⟨wo2, hwo⟩ : ∃ wo : World, wo = wr := ⟨_, rfl⟩
          obtain rfl := hwo
          go_wp2_with fail
          go_loopg [7, 8, 9] r.length (fun g nx fo k wr => ∃ i : Nat, g = r.length - i ∧ i ≤ r.length ∧ nx = str ((pickS lo (partKeys (r.take i))).getD []) ∧ fo = .bool (pickS lo (partKeys (r.take i))).isSome ∧ k = .int .i64 i ∧ Fr (fun _ => False) w wr)
          case atStart => exact ⟨0, rfl, Nat.zero_le _, rfl, rfl, rfl, HF2.out⟩
          case round =>
            obtain ⟨i, hg, hir, rfl, rfl, rfl, F⟩ := hrel
            have HG3 := Lib.hid hg
            have HF3 := Lib.hid F
            have e0 := F.cell HE0.out (fun h => h)
            obtain ⟨a1, c1, hxe, _, _, hx⟩ := HA.out.old F
            subst hxe
            obtain ⟨bo, hbo⟩ : ∃ bo, bo = pickS lo (partKeys (r.take i)) := ⟨_, rfl⟩
            rw [← hbo]
            have HBO := Lib.hid hbo
            obtain ⟨nx, hnx⟩ : ∃ nx, nx = bo.getD [] := ⟨_, rfl⟩
            obtain ⟨fo, hfo⟩ : ∃ fo, fo = bo.isSome := ⟨_, rfl⟩
            rw [← hnx, ← hfo]
            have HNX2 := Lib.hid hnx
            have HFO := Lib.hid hfo
            clear hg F hbo hnx hfo
            by_cases hil : i < r.length
            · obtain ⟨b1, o1, rfl, hy⟩ := hx (by omega)
              obtain ⟨p, hp⟩ : ∃ p, r[i]? = some p := ⟨_, List.getElem?_eq_getElem hil⟩
              obtain ⟨x, y, e1, e2, hpx, hpy⟩ := hy i p hp
              have hpm := List.mem_of_getElem? hp
              have HPK := Lib.hid (r14partKey_any x y p.o p.b wr hpx hpy (HRO.out p hpm) (HRF.out p hpm))
              have hst : pickS lo (partKeys (r.take (i + 1))) = pickStep lo bo (attrKeyS p.o p.b) := by rw [partKeys_snoc hp, pickS_snoc, HBO.out]
              have r3 : (0 : Int) ≤ (i : Int) := by omega
              have r4 : (i : Int) < (r.length : Int) := by omega
              obtain ⟨ax, cx, rfl, -⟩ := Ints.form hpx
              obtain ⟨ay, cy, rfl, -⟩ := Vals.form hpy
              have e1' : wr.cell? ⟨b1, o1 + i * 2, none⟩ = some (.slice ax p.o.length cx) := by rw [Nat.mul_comm]; exact e1
              have e2' : wr.cell? ⟨b1, o1 + i * 2 + 1, none⟩ = some (.slice ay p.b.length cy) := by rw [Nat.mul_comm]; exact e2
              obtain ⟨kp, hkp⟩ : ∃ kp, kp = attrKeyS p.o p.b := ⟨_, rfl⟩
              rw [← hkp] at HPK hst
              have HST := Lib.hid hst
              have hB : (an = false ∧ behindB lo kp = true) ∨ (an = true ∧ Op.bytesLess kp la = true ∧ behindB lo kp = false) ∨ (an = true ∧ Op.bytesLess kp la = false ∧ (kp == la) = true ∧ behindB lo kp = false) ∨ (an = true ∧ Op.bytesLess kp la = false ∧ (kp == la) = false ∧ behindB lo kp = true) := by
                rw [behind_eq, ← HLA.out, ← HAN.out, ← greater_of kp la]
                cases an <;> cases Op.bytesLess kp la <;> cases (kp == la) <;> simp
              have hT : (fo = false ∧ betterB bo kp = true) ∨ (fo = true ∧ Op.bytesLess kp nx = true ∧ betterB bo kp = true) ∨ (fo = true ∧ Op.bytesLess kp nx = false ∧ betterB bo kp = false) := by
                rw [better_eq, ← HNX2.out, ← HFO.out, ← less_of (x := kp)]
                cases fo <;> cases Op.bytesLess kp nx <;> simp
              have HB := Lib.hid hB
              have HT := Lib.hid hT
              clear hx hy hp hpx hpy hpm hkp e1 e2 hst hB hT
              go_wp2_with fail
              refine HPK.out.mono ?_
              rintro e w3 ⟨rfl, F3⟩
              have HF4 := Lib.hid (HF3.out.trans F3)
              clear HPK F3 e0 e1' e2'
              rcases HB.out with ⟨rfl, hb⟩ | ⟨rfl, d1, hb⟩ | ⟨rfl, d1, d2, hb⟩ | ⟨rfl, d1, d2, hb⟩ <;> rcases HT.out with ⟨rfl, ht⟩ | ⟨rfl, d3, ht⟩ | ⟨rfl, d3, ht⟩
              all_goals
                have HS2 := Lib.hid (And.intro hb ht)
                clear hb ht HB HT
                go_wp2_with fail
                go_roundg (r.length - (i + 1))
                case measure => rw [HG3.out]; omega
                case rel =>
                  have hst := HST.out
                  unfold pickStep at hst
                  rw [HS2.out.1, HS2.out.2] at hst
                  refine ⟨i + 1, rfl, by omega, ?_, ?_, by go_num, HF4.out⟩
                  · rw [hst]
                    first | rfl | (simp only [Bool.and_true, Bool.and_false, Bool.false_and, Bool.true_and, Bool.false_eq_true, if_true, if_false]; first | rfl | rw [HNX2.out])
                  · rw [hst]
                    first | rfl | (simp only [Bool.and_true, Bool.and_false, Bool.false_and, Bool.true_and, Bool.false_eq_true, if_true, if_false]; first | rfl | rw [HFO.out])
            · obtain rfl : i = r.length := by omega
              have hb := HBO.out
              rw [List.take_length, HN2.out] at hb
              clear hx
              rcases Nat.lt_or_ge c K.length with hcl | hcl
              · obtain ⟨m, hm2⟩ : ∃ m, K[c]? = some m := ⟨_, List.getElem?_eq_getElem hcl⟩
                have hml := HKM.out m (List.mem_of_getElem? hm2)
                have hjt := join_take 43 hm2
                rw [hm2] at hb
                have hn2 := HNX2.out
                have hf2 := HFO.out
                rw [hb] at hn2 hf2
                have hn3 : nx = m := hn2
                have hf3 : fo = true := hf2
                subst hn3; subst hf3
                have hlast : lastOf K (c + 1) = some nx := by rw [lastOf_succ]; exact hm2
                have HLT := Lib.hid hlast
                have hms : (ByteArray.mk nx.toArray).size = nx.length := by simp [ByteArray.size]
                have hQs : (ByteArray.mk Q.toArray).size = Q.length := by simp [ByteArray.size]
                have HJT := Lib.hid hjt
                clear hb hn2 hf2 hm2 hlast hjt
                by_cases hc0 : c = 0
                · have ha0 : an = false := by rw [HAN.out, HLS.out, hc0]; rfl
                  have hjt := HJT.out
                  rw [if_pos hc0] at hjt
                  have hQP : Q = P := by rw [HQ.out, hc0]; simp [Lib.join]
                  have HJ2 := Lib.hid hjt
                  have HQP := Lib.hid hQP
                  subst ha0
                  clear hjt hQP hc0
                  go_wp2_with fail
                  go_roundg (K.length - (c + 1))
                  case measure => rw [HG2.out]; omega
                  case rel => exact ⟨c + 1, rfl, by omega, by rw [HJ2.out, HQP.out]; exact congrArg Value.string (ba_cat _ _), by rw [HLT.out]; rfl, by rw [HLT.out]; rfl, HF3.out⟩
                · have ha0 : an = true := by rw [HAN.out, HLS.out]; exact decide_eq_true hc0
                  have hjt := HJT.out
                  rw [if_neg hc0] at hjt
                  have HJ2 := Lib.hid hjt
                  subst ha0
                  clear hjt hc0
                  go_wp2_with fail
                  go_roundg (K.length - (c + 1))
                  case measure => rw [HG2.out]; omega
                  case rel => exact ⟨c + 1, rfl, by omega, by rw [HJ2.out, ← List.append_assoc, ← List.append_assoc, ← HQ.out]; exact congrArg Value.string (by rw [ba_cat, ba_cat]), by rw [HLT.out]; rfl, by rw [HLT.out]; rfl, HF3.out⟩
              · rw [List.getElem?_eq_none hcl] at hb
                have hf2 := HFO.out
                rw [hb] at hf2
                have hf3 : fo = false := hf2
                subst hf3
                have hc2 : c = K.length := by omega
                have hres : Lib.join ((n.map rdnKeyS).take (j + 1)) [47] = Q := by rw [HNX.out, HK2.out, HQ.out, hc2, List.take_length]
                have HRES := Lib.hid hres
                clear hb hf2 hc2 hres
                go_wp2_with fail
                go_roundg (n.length - (j + 1))
                case measure => rw [HG.out]; omega
                case rel => exact ⟨j + 1, rfl, by omega, by rw [HRES.out], by go_num, HF3.out⟩
    · obtain rfl : j = n.length := by omega
      have hres : nameKeyS n = J := by rw [HNK.out, hJ]
      have HRES := Lib.hid hres
      clear hJ hres
      go_wp2_with fail
      go_ret
      exact ⟨by rw [HRES.out]; rfl, HF.out⟩

set_option maxRecDepth 20000 in
set_option maxHeartbeats 2000000 in
theorem r14Same_any (v u : Value) (n m : List (List Part)) (w : World) (h : NameAt w v n) (hm : NameAt w u m) (hf : ∀ r ∈ n, fewB r) (hfm : ∀ r ∈ m, fewB r) :
    Calls Tryz.prog 21 #[v, u] w fun e w' => e = .returned (.bool (nameSameS n m)) ∧ Fr (fun _ => False) w w' := by
  have H := Lib.hid h
  have HM := Lib.hid hm
  have HR := Lib.hid (r14Right_any v n w h hf)
  have HS := Lib.hid (show nameSameS n m = (nameOk n && (nameOk m && decide (nameKeyS n = nameKeyS m))) from rfl)
  clear h hm
  go_enter Tryz.func21, Tryz.ntmps21
  go_wp2_with fail
  refine HR.out.mono ?_
  rintro e w1 ⟨rfl, F1⟩
  have HF1 := Lib.hid F1
  have HR2 := Lib.hid (r14Right_any u m w1 (HM.out.old F1) hfm)
  clear HR F1
  cases hok : nameOk n with
  | false =>
    rw [hok] at HS
    clear hok
    go_wp2_with fail
    go_ret
    exact ⟨by rw [HS.out]; rfl, HF1.out⟩
  | true =>
    have HOK := Lib.hid hok
    rw [hok] at HS
    clear hok
    go_wp2_with fail
    refine HR2.out.mono ?_
    rintro e w2 ⟨rfl, F2⟩
    have HF2 := Lib.hid (HF1.out.trans F2)
    clear HR2 F2 HF1
    cases hok2 : nameOk m with
    | false =>
      rw [hok2] at HS
      clear hok2
      go_wp2_with fail
      go_ret
      exact ⟨by rw [HS.out]; rfl, HF2.out⟩
    | true =>
      have HOK2 := Lib.hid hok2
      rw [hok2] at HS
      have HK := Lib.hid (r14Key_any v n w2 (H.out.old HF2.out) hf HOK.out)
      clear hok2
      go_wp2_with fail
      refine HK.out.mono ?_
      rintro e w3 ⟨rfl, F3⟩
      have HF3 := Lib.hid (HF2.out.trans F3)
      have HK2 := Lib.hid (r14Key_any u m w3 (HM.out.old HF3.out) hfm HOK2.out)
      clear HK F3 HF2
      go_wp2_with fail
      refine HK2.out.mono ?_
      rintro e w4 ⟨rfl, F4⟩
      have HF4 := Lib.hid (HF3.out.trans F4)
      clear HK2 F4 HF3
      generalize nameKeyS n = kn at *
      generalize nameKeyS m = km at *
      by_cases hkk : kn = km
      · have hq2 : (kn == km) = true := by simpa using hkk
        have HKK := Lib.hid (decide_eq_true hkk)
        clear hkk
        go_wp2_with fail
        go_ret
        exact ⟨by rw [HS.out, HKK.out]; rfl, HF4.out⟩
      · have hq2 : (kn == km) = false := by simpa using hkk
        have HKK := Lib.hid (decide_eq_false hkk)
        clear hkk
        go_wp2_with fail
        go_ret
        exact ⟨by rw [HS.out, HKK.out]; rfl, HF4.out⟩
end Go.Proofs.YtgffhiopbnkjbaaGreatDoor

namespace Go.Q
theorem held_z {α : Type} {o : α} {l : List α} : (o :: l)[0]? = some o := rfl
theorem held_s {α : Type} {a o : α} {l : List α} {i : Nat} (h : l[i]? = some o) : (a :: l)[i + 1]? = some o := h
theorem held_at {α : Type} {o : α} {l : List α} {i : Nat} (h : l[i]? = some o) : l.toArray[i]? = some o := by simpa using h
end Go.Q

namespace Go.Q
open Go Go.RowKit
instance : DecidableEq Part := fun p q => if h : p.o = q.o ∧ p.b = q.b then isTrue (by cases p; cases q; simp_all) else isFalse (fun e => h (by rw [e]; exact ⟨rfl, rfl⟩))
theorem Part.ext2 {p q : Part} (h1 : p.o = q.o) (h2 : p.b = q.b) : p = q := by cases p; cases q; simp_all
theorem take_next {α : Type} {l m : List α} {i : Nat} {x : α} (h : l.take i = m.take i) (h1 : l[i]? = some x) (h2 : m[i]? = some x) : l.take (i + 1) = m.take (i + 1) := by
  rw [List.take_add_one, List.take_add_one, h, h1, h2]
theorem ne_at {α : Type} {l m : List α} {i : Nat} {x y : α} (h1 : l[i]? = some x) (h2 : m[i]? = some y) (h : x ≠ y) : l ≠ m := fun e => by
  subst e
  rw [h1] at h2
  exact h (Option.some.inj h2)
theorem eq_of_take {α : Type} {l m : List α} (h : l.length = m.length) (h1 : l.take l.length = m.take l.length) : l = m := by
  rw [List.take_length] at h1
  rw [h1, h, List.take_length]
end Go.Q
namespace Go.Proofs.YtgffhiopbnkjbaaGreatDoor
open Go Go.RowKit Go.Q
set_option linter.unusedSimpArgs false

set_option maxRecDepth 20000 in
set_option maxHeartbeats 8000000 in
theorem r14Like_any (v u : Value) (n m : List (List Part)) (w : World) (h : NameAt w v n) (hu : NameAt w u m) :
    Calls Tryz.prog 24 #[v, u] w fun e w' => e = .returned (.bool (decide (n = m))) ∧ Fr (fun _ => False) w w' := by
  have H := Lib.hid h
  have HU := Lib.hid hu
  obtain ⟨a, cap, rfl, hc, hm, -⟩ := h
  obtain ⟨a', cap', rfl, hc', hm', -⟩ := hu
  have hcm : cap ≤ 9223372036854775807 := by unfold maxLen at hm; omega
  have hcm' : cap' ≤ 9223372036854775807 := by unfold maxLen at hm'; omega
  clear hm hm'
  by_cases hlen : n.length = m.length
  · have q1 : ((n.length : Int) != (m.length : Int)) = false := by simp [hlen]
    have q2 : (n.length != m.length) = false := by simp [hlen]
    have q3 : ((n.length : Int) == (m.length : Int)) = true := by simp [hlen]
    have q4 : (n.length == m.length) = true := by simp [hlen]
    have HLEN := Lib.hid hlen
    clear hlen
    go_enter Tryz.func24, Tryz.ntmps24
    go_wp2_with fail
    clear q1 q2 q3 q4
    go_loopg [5] n.length (fun g ii wr => ∃ i : Nat, g = n.length - i ∧ i ≤ n.length ∧ ii = .int .i64 i ∧ n.take i = m.take i ∧ Fr (fun _ => False) w wr)
    case atStart => exact ⟨0, rfl, Nat.zero_le _, rfl, rfl, Fr.refl _⟩
    case round =>
      obtain ⟨i, hg, hi, rfl, ht, F⟩ := hrel
      have HG := Lib.hid hg
      have HT := Lib.hid ht
      have HF := Lib.hid F
      clear hg ht
      by_cases hil : i < n.length
      · have him : i < m.length := by have := HLEN.out; omega
        obtain ⟨a0, cap0, he, _, _, hx⟩ := H.out
        simp only [Value.slice.injEq, true_and] at he
        obtain ⟨rfl, rfl⟩ := he
        obtain ⟨b, off, rfl, hy⟩ := hx (by omega)
        obtain ⟨r, hr⟩ : ∃ r, n[i]? = some r := ⟨_, List.getElem?_eq_getElem hil⟩
        obtain ⟨x, e0, hA⟩ := hy i r hr
        clear hx hy
        obtain ⟨a0, cap0, he, _, _, hx⟩ := HU.out
        simp only [Value.slice.injEq, true_and] at he
        obtain ⟨rfl, rfl⟩ := he
        obtain ⟨b', off', rfl, hy⟩ := hx (by omega)
        obtain ⟨s, hs⟩ : ∃ s, m[i]? = some s := ⟨_, List.getElem?_eq_getElem him⟩
        obtain ⟨y, e0', hA'⟩ := hy i s hs
        clear hx hy
        have HRI := Lib.hid hr
        have HSI := Lib.hid hs
        have HA := Lib.hid hA
        have HA' := Lib.hid hA'
        obtain ⟨ar, cr, rfl, hcr, hmr, -⟩ := hA
        obtain ⟨a2, cs, rfl, hcs, hms, -⟩ := hA'
        have hcr2 : cr ≤ 9223372036854775807 := by unfold maxLen at hmr; omega
        have hcs2 : cs ≤ 9223372036854775807 := by unfold maxLen at hms; omega
        have HE0 := Lib.hid e0
        have HE0' := Lib.hid e0'
        have e0w := F.cell e0 (fun h => h)
        have e0w' := F.cell e0' (fun h => h)
        have r1 : (0 : Int) ≤ (i : Int) := by omega
        have r2 : (i : Int) < (n.length : Int) := by omega
        have r3 : (i : Int) < (m.length : Int) := by omega
        clear hr hs F hmr hms e0 e0'
        by_cases hl2 : r.length = s.length
        · have q1 : ((r.length : Int) != (s.length : Int)) = false := by simp [hl2]
          have q2 : (r.length != s.length) = false := by simp [hl2]
          have q3 : ((r.length : Int) == (s.length : Int)) = true := by simp [hl2]
          have q4 : (r.length == s.length) = true := by simp [hl2]
          have HL2 := Lib.hid hl2
          clear hl2
          go_upto_region 6 with fail
          go_quiet (fail)
          have HF1 := Lib.hid (HF.out.drewN nq)
          generalize (wr.drewN nq) = w1 at *
          go_wp2_with fail
          clear q1 q2 q3 q4 e0w e0w'
          go_loopg [6] r.length (fun g kk wr => ∃ k : Nat, g = r.length - k ∧ k ≤ r.length ∧ kk = .int .i64 k ∧ r.take k = s.take k ∧ Fr (fun _ => False) w wr)
          case atStart => exact ⟨0, rfl, Nat.zero_le _, rfl, rfl, HF1.out⟩
          case round =>
            obtain ⟨k, hg, hk, rfl, ht, F⟩ := hrel
            have HG2 := Lib.hid hg
            have HT2 := Lib.hid ht
            have HF2 := Lib.hid F
            have e0w := F.cell HE0.out (fun h => h)
            have e0w' := F.cell HE0'.out (fun h => h)
            clear hg ht
            by_cases hkl : k < r.length
            · have hks : k < s.length := by have := HL2.out; omega
              obtain ⟨a0, cap0, he, _, _, hx⟩ := HA.out
              simp only [Value.slice.injEq, true_and] at he
              obtain ⟨rfl, rfl⟩ := he
              obtain ⟨b1, o1, rfl, hy⟩ := hx (by omega)
              obtain ⟨p, hp⟩ : ∃ p, r[k]? = some p := ⟨_, List.getElem?_eq_getElem hkl⟩
              obtain ⟨x, y, e1, e2, hpx, hpy⟩ := hy k p hp
              clear hx hy
              obtain ⟨a0, cap0, he, _, _, hx⟩ := HA'.out
              simp only [Value.slice.injEq, true_and] at he
              obtain ⟨rfl, rfl⟩ := he
              obtain ⟨b2, o2, rfl, hy⟩ := hx (by omega)
              obtain ⟨q, hq⟩ : ∃ q, s[k]? = some q := ⟨_, List.getElem?_eq_getElem hks⟩
              obtain ⟨x', y', e1', e2', hqx, hqy⟩ := hy k q hq
              clear hx hy
              rw [Nat.mul_comm] at e1 e2 e1' e2'
              obtain ⟨ax, cx, rfl, -⟩ := Ints.form hpx
              obtain ⟨ay, cy, rfl, -⟩ := Vals.form hpy
              obtain ⟨ax', cx', rfl, -⟩ := Ints.form hqx
              obtain ⟨ay', cy', rfl, -⟩ := Vals.form hqy
              have hS : ∀ w', Fr (fun _ => False) w w' → w'.cell? ⟨b, off + i, none⟩ = some (.slice (some ⟨b1, o1, none⟩) r.length cr) ∧ w'.cell? ⟨b', off' + i, none⟩ = some (.slice (some ⟨b2, o2, none⟩) s.length cs) ∧ w'.cell? ⟨b1, o1 + k * 2, none⟩ = some (.slice ax p.o.length cx) ∧ w'.cell? ⟨b1, o1 + k * 2 + 1, none⟩ = some (.slice ay p.b.length cy) ∧ w'.cell? ⟨b2, o2 + k * 2, none⟩ = some (.slice ax' q.o.length cx') ∧ w'.cell? ⟨b2, o2 + k * 2 + 1, none⟩ = some (.slice ay' q.b.length cy') := fun w' f => ⟨f.cell HE0.out (fun h => h), f.cell HE0'.out (fun h => h), f.cell e1 (fun h => h), f.cell e2 (fun h => h), f.cell e1' (fun h => h), f.cell e2' (fun h => h)⟩
              have HS := Lib.hid hS
              obtain ⟨d1, hd1⟩ : ∃ d1, decide (p.o = q.o) = d1 := ⟨_, rfl⟩
              obtain ⟨d2, hd2⟩ : ∃ d2, decide (p.b = q.b) = d2 := ⟨_, rfl⟩
              have hc1 : ∀ W, Fr (fun _ => False) w W → Calls Tryz.prog 17 #[.slice ax p.o.length cx, .slice ax' q.o.length cx'] W fun e w' => e = .returned (.bool d1) ∧ Fr (fun _ => False) W w' := fun W f => by
                have := r04Same_any _ _ p.o q.o W (hpx.old f) (hqx.old f)
                rw [hd1] at this
                exact this
              have hc2 : ∀ W, Fr (fun _ => False) w W → Calls Tryz.prog 43 #[.slice ay p.b.length cy, .slice ay' q.b.length cy'] W fun e w' => e = .returned (.bool d2) ∧ Fr (fun _ => False) W w' := fun W f => by
                have := r01Same_any _ _ p.b q.b W (hpy.old f) (hqy.old f)
                rw [hd2] at this
                exact this
              have HC1 := Lib.hid hc1
              have HC2 := Lib.hid hc2
              have HD1 := Lib.hid hd1
              have HD2 := Lib.hid hd2
              have HPI := Lib.hid hp
              have HQI := Lib.hid hq
              have s1 : (0 : Int) ≤ (k : Int) := by omega
              have s2 : (k : Int) < (r.length : Int) := by omega
              have s3 : (k : Int) < (s.length : Int) := by omega
              clear hp hq e1 e2 e1' e2' hpx hpy hqx hqy hS hc1 hc2 hd1 hd2
              go_upto_region 11 with fail
              clear e0w e0w'
              have G : Fr (fun _ => False) w wr.drew := F.drew
              clear F
              cases d1 with
              | false =>
                have hne : n ≠ m := ne_at HRI.out HSI.out (ne_at HPI.out HQI.out (fun e => by have := of_decide_eq_false HD1.out; rw [e] at this; exact this rfl))
                have HNE := Lib.hid (decide_eq_false hne)
                clear hne
                refine wp_region_held_drew (S := (fun w' => w'.cell? ⟨b, off + i, none⟩ = some (.slice (some ⟨b1, o1, none⟩) r.length cr) ∧ w'.cell? ⟨b', off' + i, none⟩ = some (.slice (some ⟨b2, o2, none⟩) s.length cs) ∧ w'.cell? ⟨b1, o1 + k * 2, none⟩ = some (.slice ax p.o.length cx) ∧ w'.cell? ⟨b1, o1 + k * 2 + 1, none⟩ = some (.slice ay p.b.length cy) ∧ w'.cell? ⟨b2, o2 + k * 2, none⟩ = some (.slice ax' q.o.length cx') ∧ w'.cell? ⟨b2, o2 + k * 2 + 1, none⟩ = some (.slice ay' q.b.length cy'))) (by kernel_rfl) ?_ (fun hHeld => ?_)
                · exact HS.out _ G
                refine wpAnyH_take (i := 0) (v := ?vr0) (held_at held_z) (by kernel_rfl) (by kernel_rfl) (by kernel_rfl) (fun _ _ _ h => h) (Or.inl ⟨by rfl, ?hyr0⟩) (by assumption) ?restr0
                case hyr0 => intro w9 hSw; (try dsimp only at hSw); go_simp; all_goals with_reducible rfl
                try simp only [Act.put, List.setIfInBounds_toArray, List.set_cons_zero, List.set_cons_succ]
                refine wpAnyH_take (i := 1) (v := ?vr1) (held_at (held_s held_z)) (by kernel_rfl) (by kernel_rfl) (by kernel_rfl) (fun _ _ _ h => h) (Or.inl ⟨by rfl, ?hyr1⟩) (by assumption) ?restr1
                case hyr1 => intro w9 hSw; (try dsimp only at hSw); go_simp; all_goals with_reducible rfl
                try simp only [Act.put, List.setIfInBounds_toArray, List.set_cons_zero, List.set_cons_succ]
                refine wpAnyH_take (i := 2) (v := ?vr2) (held_at (held_s (held_s held_z))) (by kernel_rfl) (by kernel_rfl) (by kernel_rfl) (fun _ _ _ h => h) (Or.inl ⟨by rfl, ?hyr2⟩) (by assumption) ?restr2
                case hyr2 => intro w9 hSw; (try dsimp only at hSw); go_simp; all_goals with_reducible rfl
                try simp only [Act.put, List.setIfInBounds_toArray, List.set_cons_zero, List.set_cons_succ]
                refine wpAnyH_take (i := 3) (v := ?vr3) (held_at (held_s (held_s (held_s held_z)))) (by kernel_rfl) (by kernel_rfl) (by kernel_rfl) (fun _ _ _ h => h) (Or.inl ⟨by rfl, ?hyr3⟩) (by assumption) ?restr3
                case hyr3 => intro w9 hSw; (try dsimp only at hSw); go_simp; all_goals with_reducible rfl
                try simp only [Act.put, List.setIfInBounds_toArray, List.set_cons_zero, List.set_cons_succ]
                refine wpAnyH_take (i := 4) (v := ?vr4) (held_at (held_s (held_s (held_s (held_s held_z))))) (by kernel_rfl) (by kernel_rfl) (by kernel_rfl) (fun _ _ _ h => h) (Or.inl ⟨by rfl, ?hyr4⟩) (by assumption) ?restr4
                case hyr4 => intro w9 hSw; (try dsimp only at hSw); go_simp; all_goals with_reducible rfl
                try simp only [Act.put, List.setIfInBounds_toArray, List.set_cons_zero, List.set_cons_succ]
                refine wpAnyH_take (i := 5) (v := ?vr5) (held_at (held_s (held_s (held_s (held_s (held_s held_z)))))) (by kernel_rfl) (by kernel_rfl) (by kernel_rfl) (fun _ _ _ h => h) (Or.inl ⟨by rfl, ?hyr5⟩) (by assumption) ?restr5
                case hyr5 => intro w9 hSw; (try dsimp only at hSw); go_simp; all_goals with_reducible rfl
                try simp only [Act.put, List.setIfInBounds_toArray, List.set_cons_zero, List.set_cons_succ]
                refine wpAnyH_take (i := 6) (v := ?vr6) (held_at (held_s (held_s (held_s (held_s (held_s (held_s held_z))))))) (by kernel_rfl) (by kernel_rfl) (by kernel_rfl) (fun _ _ _ h => h) (Or.inl ⟨by rfl, ?hyr6⟩) (by assumption) ?restr6
                case hyr6 => intro w9 hSw; (try dsimp only at hSw); go_simp; all_goals with_reducible rfl
                try simp only [Act.put, List.setIfInBounds_toArray, List.set_cons_zero, List.set_cons_succ]
                refine wpAnyH_take (i := 7) (v := ?vr7) (held_at (held_s (held_s (held_s (held_s (held_s (held_s (held_s held_z)))))))) (by kernel_rfl) (by kernel_rfl) (by kernel_rfl) (fun _ _ _ h => h) (Or.inl ⟨by rfl, ?hyr7⟩) (by assumption) ?restr7
                case hyr7 => intro w9 hSw; (try dsimp only at hSw); go_simp; all_goals with_reducible rfl
                try simp only [Act.put, List.setIfInBounds_toArray, List.set_cons_zero, List.set_cons_succ]
                refine wpAnyH_take (i := 8) (v := ?vr8) (held_at (held_s (held_s (held_s (held_s (held_s (held_s (held_s (held_s held_z))))))))) (by kernel_rfl) (by kernel_rfl) (by kernel_rfl) (fun _ _ _ h => h) (Or.inl ⟨by rfl, ?hyr8⟩) (by assumption) ?restr8
                case hyr8 => intro w9 hSw; (try dsimp only at hSw); go_simp; all_goals with_reducible rfl
                try simp only [Act.put, List.setIfInBounds_toArray, List.set_cons_zero, List.set_cons_succ]
                refine wpAnyH_take (i := 9) (v := ?vr9) (held_at (held_s (held_s (held_s (held_s (held_s (held_s (held_s (held_s (held_s held_z)))))))))) (by kernel_rfl) (by kernel_rfl) (by kernel_rfl) (fun _ _ _ h => h) (Or.inl ⟨by rfl, ?hyr9⟩) (by assumption) ?restr9
                case hyr9 => intro w9 hSw; (try dsimp only at hSw); go_simp; all_goals with_reducible rfl
                try simp only [Act.put, List.setIfInBounds_toArray, List.set_cons_zero, List.set_cons_succ]
                refine wpAnyH_take (i := 10) (v := ?vr10) (held_at (held_s (held_s (held_s (held_s (held_s (held_s (held_s (held_s (held_s (held_s held_z))))))))))) (by kernel_rfl) (by kernel_rfl) (by kernel_rfl) (fun _ _ _ h => h) (Or.inl ⟨by rfl, ?hyr10⟩) (by assumption) ?restr10
                case hyr10 => intro w9 hSw; (try dsimp only at hSw); go_simp; all_goals with_reducible rfl
                try simp only [Act.put, List.setIfInBounds_toArray, List.set_cons_zero, List.set_cons_succ]
                refine wpAnyH_take (i := 11) (v := ?vr11) (held_at (held_s (held_s (held_s (held_s (held_s (held_s (held_s (held_s (held_s (held_s (held_s held_z)))))))))))) (by kernel_rfl) (by kernel_rfl) (by kernel_rfl) (fun _ _ _ h => h) (Or.inl ⟨by rfl, ?hyr11⟩) (by assumption) ?restr11
                case hyr11 => intro w9 hSw; (try dsimp only at hSw); go_simp; all_goals with_reducible rfl
                try simp only [Act.put, List.setIfInBounds_toArray, List.set_cons_zero, List.set_cons_succ]
                refine wpAnyH_take (i := 12) (v := ?vr12) (held_at (held_s (held_s (held_s (held_s (held_s (held_s (held_s (held_s (held_s (held_s (held_s (held_s held_z))))))))))))) (by kernel_rfl) (by kernel_rfl) (by kernel_rfl) (fun _ _ _ h => h) (Or.inl ⟨by rfl, ?hyr12⟩) (by assumption) ?restr12
                case hyr12 => intro w9 hSw; (try dsimp only at hSw); go_simp; all_goals with_reducible rfl
                try simp only [Act.put, List.setIfInBounds_toArray, List.set_cons_zero, List.set_cons_succ]
                refine wpAnyH_take (i := 13) (v := ?vr13) (held_at (held_s (held_s (held_s (held_s (held_s (held_s (held_s (held_s (held_s (held_s (held_s (held_s (held_s held_z)))))))))))))) (by kernel_rfl) (by kernel_rfl) (by kernel_rfl) (fun _ _ _ h => h) (Or.inl ⟨by rfl, ?hyr13⟩) (by assumption) ?restr13
                case hyr13 => intro w9 hSw; (try dsimp only at hSw); go_simp; all_goals with_reducible rfl
                try simp only [Act.put, List.setIfInBounds_toArray, List.set_cons_zero, List.set_cons_succ]
                refine wpAnyH_take (i := 14) (v := ?vr14) (held_at (held_s (held_s (held_s (held_s (held_s (held_s (held_s (held_s (held_s (held_s (held_s (held_s (held_s (held_s held_z))))))))))))))) (by kernel_rfl) (by kernel_rfl) (by kernel_rfl) (fun _ _ _ h => h) (Or.inl ⟨by rfl, ?hyr14⟩) (by assumption) ?restr14
                case hyr14 => intro w9 hSw; (try dsimp only at hSw); go_simp; all_goals with_reducible rfl
                try simp only [Act.put, List.setIfInBounds_toArray, List.set_cons_zero, List.set_cons_succ]
                refine wpAnyH_take (i := 15) (v := ?vr15) (held_at (held_s (held_s (held_s (held_s (held_s (held_s (held_s (held_s (held_s (held_s (held_s (held_s (held_s (held_s (held_s held_z)))))))))))))))) (by kernel_rfl) (by kernel_rfl) (by kernel_rfl) (fun _ _ _ h => h) (Or.inl ⟨by rfl, ?hyr15⟩) (by assumption) ?restr15
                case hyr15 => intro w9 hSw; (try dsimp only at hSw); go_simp; all_goals with_reducible rfl
                try simp only [Act.put, List.setIfInBounds_toArray, List.set_cons_zero, List.set_cons_succ]
                refine wpAnyH_ready (rs := [16]) (by kernel_rfl) (by simp) ?_
                refine AllReadyH.cons (held_at (held_s (held_s (held_s (held_s (held_s (held_s (held_s (held_s (held_s (held_s (held_s (held_s (held_s (held_s (held_s (held_s held_z))))))))))))))))) (fun K hK => ?_) AllReadyH.nil
                go_simp
                go_at_call 17; (with_reducible refine (HC1.out _ G).mono ?_); rintro e w' ⟨rfl, F⟩; replace G := G.trans F
                try go_wp2_with fail
                refine hK.out _ _ ?_ (fun hHeld => ?_)
                · exact HS.out _ G
                clear hK K
                try simp only [Act.put, List.setIfInBounds_toArray, List.set_cons_zero, List.set_cons_succ]
                refine wpAnyH_take (i := 17) (v := ?vr17) (held_at (held_s (held_s (held_s (held_s (held_s (held_s (held_s (held_s (held_s (held_s (held_s (held_s (held_s (held_s (held_s (held_s (held_s held_z)))))))))))))))))) (by kernel_rfl) (by kernel_rfl) (by kernel_rfl) (fun _ _ _ h => h) (Or.inl ⟨by rfl, ?hyr17⟩) (by assumption) ?restr17
                case hyr17 => intro w9 hSw; (try dsimp only at hSw); go_simp; all_goals with_reducible rfl
                try simp only [Act.put, List.setIfInBounds_toArray, List.set_cons_zero, List.set_cons_succ]
                refine wpAnyH_take (i := 18) (v := ?vr18) (held_at (held_s (held_s (held_s (held_s (held_s (held_s (held_s (held_s (held_s (held_s (held_s (held_s (held_s (held_s (held_s (held_s (held_s (held_s held_z))))))))))))))))))) (by kernel_rfl) (by kernel_rfl) (by kernel_rfl) (fun _ _ _ h => h) (Or.inl ⟨by rfl, ?hyr18⟩) (by assumption) ?restr18
                case hyr18 => intro w9 hSw; (try dsimp only at hSw); go_simp; all_goals with_reducible rfl
                try simp only [Act.put, List.setIfInBounds_toArray, List.set_cons_zero, List.set_cons_succ]
                refine wpAnyH_take (i := 19) (v := undef) (held_at (held_s (held_s (held_s (held_s (held_s (held_s (held_s (held_s (held_s (held_s (held_s (held_s (held_s (held_s (held_s (held_s (held_s (held_s (held_s held_z)))))))))))))))))))) (by kernel_rfl) (by kernel_rfl) (by kernel_rfl) (fun _ _ _ h => h) (Or.inr ⟨by rfl, rfl⟩) (by assumption) ?_
                try simp only [Act.put, List.setIfInBounds_toArray, List.set_cons_zero, List.set_cons_succ]
                refine wpAnyH_take (i := 20) (v := undef) (held_at (held_s (held_s (held_s (held_s (held_s (held_s (held_s (held_s (held_s (held_s (held_s (held_s (held_s (held_s (held_s (held_s (held_s (held_s (held_s (held_s held_z))))))))))))))))))))) (by kernel_rfl) (by kernel_rfl) (by kernel_rfl) (fun _ _ _ h => h) (Or.inr ⟨by rfl, rfl⟩) (by assumption) ?_
                try simp only [Act.put, List.setIfInBounds_toArray, List.set_cons_zero, List.set_cons_succ]
                refine wpAnyH_take (i := 21) (v := undef) (held_at (held_s (held_s (held_s (held_s (held_s (held_s (held_s (held_s (held_s (held_s (held_s (held_s (held_s (held_s (held_s (held_s (held_s (held_s (held_s (held_s (held_s held_z)))))))))))))))))))))) (by kernel_rfl) (by kernel_rfl) (by kernel_rfl) (fun _ _ _ h => h) (Or.inr ⟨by rfl, rfl⟩) (by assumption) ?_
                try simp only [Act.put, List.setIfInBounds_toArray, List.set_cons_zero, List.set_cons_succ]
                refine wpAnyH_take (i := 22) (v := undef) (held_at (held_s (held_s (held_s (held_s (held_s (held_s (held_s (held_s (held_s (held_s (held_s (held_s (held_s (held_s (held_s (held_s (held_s (held_s (held_s (held_s (held_s (held_s held_z))))))))))))))))))))))) (by kernel_rfl) (by kernel_rfl) (by kernel_rfl) (fun _ _ _ h => h) (Or.inr ⟨by rfl, rfl⟩) (by assumption) ?_
                try simp only [Act.put, List.setIfInBounds_toArray, List.set_cons_zero, List.set_cons_succ]
                refine wpAnyH_take (i := 23) (v := undef) (held_at (held_s (held_s (held_s (held_s (held_s (held_s (held_s (held_s (held_s (held_s (held_s (held_s (held_s (held_s (held_s (held_s (held_s (held_s (held_s (held_s (held_s (held_s (held_s held_z)))))))))))))))))))))))) (by kernel_rfl) (by kernel_rfl) (by kernel_rfl) (fun _ _ _ h => h) (Or.inr ⟨by rfl, rfl⟩) (by assumption) ?_
                try simp only [Act.put, List.setIfInBounds_toArray, List.set_cons_zero, List.set_cons_succ]
                refine wpAnyH_take (i := 24) (v := undef) (held_at (held_s (held_s (held_s (held_s (held_s (held_s (held_s (held_s (held_s (held_s (held_s (held_s (held_s (held_s (held_s (held_s (held_s (held_s (held_s (held_s (held_s (held_s (held_s (held_s held_z))))))))))))))))))))))))) (by kernel_rfl) (by kernel_rfl) (by kernel_rfl) (fun _ _ _ h => h) (Or.inr ⟨by rfl, rfl⟩) (by assumption) ?_
                try simp only [Act.put, List.setIfInBounds_toArray, List.set_cons_zero, List.set_cons_succ]
                refine wpAnyH_take (i := 25) (v := undef) (held_at (held_s (held_s (held_s (held_s (held_s (held_s (held_s (held_s (held_s (held_s (held_s (held_s (held_s (held_s (held_s (held_s (held_s (held_s (held_s (held_s (held_s (held_s (held_s (held_s (held_s held_z)))))))))))))))))))))))))) (by kernel_rfl) (by kernel_rfl) (by kernel_rfl) (fun _ _ _ h => h) (Or.inr ⟨by rfl, rfl⟩) (by assumption) ?_
                try simp only [Act.put, List.setIfInBounds_toArray, List.set_cons_zero, List.set_cons_succ]
                refine wpAnyH_take (i := 26) (v := undef) (held_at (held_s (held_s (held_s (held_s (held_s (held_s (held_s (held_s (held_s (held_s (held_s (held_s (held_s (held_s (held_s (held_s (held_s (held_s (held_s (held_s (held_s (held_s (held_s (held_s (held_s (held_s held_z))))))))))))))))))))))))))) (by kernel_rfl) (by kernel_rfl) (by kernel_rfl) (fun _ _ _ h => h) (Or.inr ⟨by rfl, rfl⟩) (by assumption) ?_
                try simp only [Act.put, List.setIfInBounds_toArray, List.set_cons_zero, List.set_cons_succ]
                refine wpAnyH_take (i := 27) (v := undef) (held_at (held_s (held_s (held_s (held_s (held_s (held_s (held_s (held_s (held_s (held_s (held_s (held_s (held_s (held_s (held_s (held_s (held_s (held_s (held_s (held_s (held_s (held_s (held_s (held_s (held_s (held_s (held_s held_z)))))))))))))))))))))))))))) (by kernel_rfl) (by kernel_rfl) (by kernel_rfl) (fun _ _ _ h => h) (Or.inr ⟨by rfl, rfl⟩) (by assumption) ?_
                try simp only [Act.put, List.setIfInBounds_toArray, List.set_cons_zero, List.set_cons_succ]
                refine wpAnyH_take (i := 28) (v := undef) (held_at (held_s (held_s (held_s (held_s (held_s (held_s (held_s (held_s (held_s (held_s (held_s (held_s (held_s (held_s (held_s (held_s (held_s (held_s (held_s (held_s (held_s (held_s (held_s (held_s (held_s (held_s (held_s (held_s held_z))))))))))))))))))))))))))))) (by kernel_rfl) (by kernel_rfl) (by kernel_rfl) (fun _ _ _ h => h) (Or.inr ⟨by rfl, rfl⟩) (by assumption) ?_
                try simp only [Act.put, List.setIfInBounds_toArray, List.set_cons_zero, List.set_cons_succ]
                refine wpAnyH_take (i := 29) (v := undef) (held_at (held_s (held_s (held_s (held_s (held_s (held_s (held_s (held_s (held_s (held_s (held_s (held_s (held_s (held_s (held_s (held_s (held_s (held_s (held_s (held_s (held_s (held_s (held_s (held_s (held_s (held_s (held_s (held_s (held_s held_z)))))))))))))))))))))))))))))) (by kernel_rfl) (by kernel_rfl) (by kernel_rfl) (fun _ _ _ h => h) (Or.inr ⟨by rfl, rfl⟩) (by assumption) ?_
                try simp only [Act.put, List.setIfInBounds_toArray, List.set_cons_zero, List.set_cons_succ]
                refine wpAnyH_take (i := 30) (v := undef) (held_at (held_s (held_s (held_s (held_s (held_s (held_s (held_s (held_s (held_s (held_s (held_s (held_s (held_s (held_s (held_s (held_s (held_s (held_s (held_s (held_s (held_s (held_s (held_s (held_s (held_s (held_s (held_s (held_s (held_s (held_s held_z))))))))))))))))))))))))))))))) (by kernel_rfl) (by kernel_rfl) (by kernel_rfl) (fun _ _ _ h => h) (Or.inr ⟨by rfl, rfl⟩) (by assumption) ?_
                try simp only [Act.put, List.setIfInBounds_toArray, List.set_cons_zero, List.set_cons_succ]
                refine wpAnyH_take (i := 31) (v := undef) (held_at (held_s (held_s (held_s (held_s (held_s (held_s (held_s (held_s (held_s (held_s (held_s (held_s (held_s (held_s (held_s (held_s (held_s (held_s (held_s (held_s (held_s (held_s (held_s (held_s (held_s (held_s (held_s (held_s (held_s (held_s (held_s held_z)))))))))))))))))))))))))))))))) (by kernel_rfl) (by kernel_rfl) (by kernel_rfl) (fun _ _ _ h => h) (Or.inr ⟨by rfl, rfl⟩) (by assumption) ?_
                try simp only [Act.put, List.setIfInBounds_toArray, List.set_cons_zero, List.set_cons_succ]
                refine wpAnyH_take (i := 32) (v := undef) (held_at (held_s (held_s (held_s (held_s (held_s (held_s (held_s (held_s (held_s (held_s (held_s (held_s (held_s (held_s (held_s (held_s (held_s (held_s (held_s (held_s (held_s (held_s (held_s (held_s (held_s (held_s (held_s (held_s (held_s (held_s (held_s (held_s held_z))))))))))))))))))))))))))))))))) (by kernel_rfl) (by kernel_rfl) (by kernel_rfl) (fun _ _ _ h => h) (Or.inr ⟨by rfl, rfl⟩) (by assumption) ?_
                try simp only [Act.put, List.setIfInBounds_toArray, List.set_cons_zero, List.set_cons_succ]
                refine wpAnyH_take (i := 33) (v := undef) (held_at (held_s (held_s (held_s (held_s (held_s (held_s (held_s (held_s (held_s (held_s (held_s (held_s (held_s (held_s (held_s (held_s (held_s (held_s (held_s (held_s (held_s (held_s (held_s (held_s (held_s (held_s (held_s (held_s (held_s (held_s (held_s (held_s (held_s held_z)))))))))))))))))))))))))))))))))) (by kernel_rfl) (by kernel_rfl) (by kernel_rfl) (fun _ _ _ h => h) (Or.inr ⟨by rfl, rfl⟩) (by assumption) ?_
                try simp only [Act.put, List.setIfInBounds_toArray, List.set_cons_zero, List.set_cons_succ]
                refine wpAnyH_take (i := 34) (v := undef) (held_at (held_s (held_s (held_s (held_s (held_s (held_s (held_s (held_s (held_s (held_s (held_s (held_s (held_s (held_s (held_s (held_s (held_s (held_s (held_s (held_s (held_s (held_s (held_s (held_s (held_s (held_s (held_s (held_s (held_s (held_s (held_s (held_s (held_s (held_s held_z))))))))))))))))))))))))))))))))))) (by kernel_rfl) (by kernel_rfl) (by kernel_rfl) (fun _ _ _ h => h) (Or.inr ⟨by rfl, rfl⟩) (by assumption) ?_
                try simp only [Act.put, List.setIfInBounds_toArray, List.set_cons_zero, List.set_cons_succ]
                refine wpAnyH_take (i := 35) (v := undef) (held_at (held_s (held_s (held_s (held_s (held_s (held_s (held_s (held_s (held_s (held_s (held_s (held_s (held_s (held_s (held_s (held_s (held_s (held_s (held_s (held_s (held_s (held_s (held_s (held_s (held_s (held_s (held_s (held_s (held_s (held_s (held_s (held_s (held_s (held_s (held_s held_z)))))))))))))))))))))))))))))))))))) (by kernel_rfl) (by kernel_rfl) (by kernel_rfl) (fun _ _ _ h => h) (Or.inr ⟨by rfl, rfl⟩) (by assumption) ?_
                try simp only [Act.put, List.setIfInBounds_toArray, List.set_cons_zero, List.set_cons_succ]
                refine wpAnyH_take (i := 36) (v := undef) (held_at (held_s (held_s (held_s (held_s (held_s (held_s (held_s (held_s (held_s (held_s (held_s (held_s (held_s (held_s (held_s (held_s (held_s (held_s (held_s (held_s (held_s (held_s (held_s (held_s (held_s (held_s (held_s (held_s (held_s (held_s (held_s (held_s (held_s (held_s (held_s (held_s held_z))))))))))))))))))))))))))))))))))))) (by kernel_rfl) (by kernel_rfl) (by kernel_rfl) (fun _ _ _ h => h) (Or.inr ⟨by rfl, rfl⟩) (by assumption) ?_
                try simp only [Act.put, List.setIfInBounds_toArray, List.set_cons_zero, List.set_cons_succ]
                refine wpAnyH_take (i := 37) (v := ?vr37) (held_at (held_s (held_s (held_s (held_s (held_s (held_s (held_s (held_s (held_s (held_s (held_s (held_s (held_s (held_s (held_s (held_s (held_s (held_s (held_s (held_s (held_s (held_s (held_s (held_s (held_s (held_s (held_s (held_s (held_s (held_s (held_s (held_s (held_s (held_s (held_s (held_s (held_s held_z)))))))))))))))))))))))))))))))))))))) (by kernel_rfl) (by kernel_rfl) (by kernel_rfl) (fun _ _ _ h => h) (Or.inl ⟨by rfl, ?hyr37⟩) (by assumption) ?restr37
                case hyr37 => intro w9 hSw; (try dsimp only at hSw); go_simp; all_goals with_reducible rfl
                try simp only [Act.put, List.setIfInBounds_toArray, List.set_cons_zero, List.set_cons_succ]
                refine wpAnyH_done (by kernel_rfl) ?_ _
                all_goals
                  go_wp2_with fail
                  go_ret
                  exact ⟨by rw [HNE.out]; rfl, G⟩
              | true =>
                cases d2 with
                | false =>
                  have hne : n ≠ m := ne_at HRI.out HSI.out (ne_at HPI.out HQI.out (fun e => by have := of_decide_eq_false HD2.out; rw [e] at this; exact this rfl))
                  have HNE := Lib.hid (decide_eq_false hne)
                  clear hne
                  go_region_held3 (fun w' => w'.cell? ⟨b, off + i, none⟩ = some (.slice (some ⟨b1, o1, none⟩) r.length cr) ∧ w'.cell? ⟨b', off' + i, none⟩ = some (.slice (some ⟨b2, o2, none⟩) s.length cs) ∧ w'.cell? ⟨b1, o1 + k * 2, none⟩ = some (.slice ax p.o.length cx) ∧ w'.cell? ⟨b1, o1 + k * 2 + 1, none⟩ = some (.slice ay p.b.length cy) ∧ w'.cell? ⟨b2, o2 + k * 2, none⟩ = some (.slice ax' q.o.length cx') ∧ w'.cell? ⟨b2, o2 + k * 2 + 1, none⟩ = some (.slice ay' q.b.length cy')) (exact HS.out _ G) (first
                    | (go_at_call 17; refine (HC1.out _ G).mono ?_; rintro e w' ⟨rfl, F⟩; replace G := G.trans F)
                    | (go_at_call 43; refine (HC2.out _ G).mono ?_; rintro e w' ⟨rfl, F⟩; replace G := G.trans F))
                  all_goals
                    go_wp2_with fail
                    go_ret
                    exact ⟨by rw [HNE.out]; rfl, G⟩
                | true =>
                  have hpq : p = q := Part.ext2 (of_decide_eq_true HD1.out) (of_decide_eq_true HD2.out)
                  have HNT := Lib.hid (take_next HT2.out HPI.out (by rw [hpq]; exact HQI.out))
                  clear hpq
                  go_region_held3 (fun w' => w'.cell? ⟨b, off + i, none⟩ = some (.slice (some ⟨b1, o1, none⟩) r.length cr) ∧ w'.cell? ⟨b', off' + i, none⟩ = some (.slice (some ⟨b2, o2, none⟩) s.length cs) ∧ w'.cell? ⟨b1, o1 + k * 2, none⟩ = some (.slice ax p.o.length cx) ∧ w'.cell? ⟨b1, o1 + k * 2 + 1, none⟩ = some (.slice ay p.b.length cy) ∧ w'.cell? ⟨b2, o2 + k * 2, none⟩ = some (.slice ax' q.o.length cx') ∧ w'.cell? ⟨b2, o2 + k * 2 + 1, none⟩ = some (.slice ay' q.b.length cy')) (exact HS.out _ G) (first
                    | (go_at_call 17; refine (HC1.out _ G).mono ?_; rintro e w' ⟨rfl, F⟩; replace G := G.trans F)
                    | (go_at_call 43; refine (HC2.out _ G).mono ?_; rintro e w' ⟨rfl, F⟩; replace G := G.trans F))
                  all_goals
                    go_wp2_with fail
                    go_roundg (r.length - (k + 1))
                    case measure => rw [HG2.out]; omega
                    case rel => exact ⟨k + 1, rfl, by omega, by go_num, HNT.out, G⟩
            · obtain rfl : k = r.length := by omega
              have hrs : r = s := eq_of_take HL2.out HT2.out
              have HNT := Lib.hid (take_next HT.out HRI.out (by rw [hrs]; exact HSI.out))
              clear hrs
              go_wp2_with fail
              go_roundg (n.length - (i + 1))
              case measure => rw [HG.out]; omega
              case rel => exact ⟨i + 1, rfl, by omega, by go_num, HNT.out, F⟩
        · have q1 : ((r.length : Int) != (s.length : Int)) = true := by simp; omega
          have q2 : (r.length != s.length) = true := by simpa using hl2
          have q3 : ((r.length : Int) == (s.length : Int)) = false := by simp; omega
          have q4 : (r.length == s.length) = false := by simpa using hl2
          have hne : n ≠ m := ne_at HRI.out HSI.out (fun e => hl2 (by rw [e]))
          have HNE := Lib.hid (decide_eq_false hne)
          clear hne hl2
          go_upto_region 6 with fail
          go_quiet (fail)
          have HF1 := Lib.hid (HF.out.drewN nq)
          generalize (wr.drewN nq) = w1 at *
          go_wp2_with fail
          go_ret
          exact ⟨by rw [HNE.out]; rfl, HF1.out⟩
      · obtain rfl : i = n.length := by omega
        have hnm : n = m := eq_of_take HLEN.out HT.out
        have HNM := Lib.hid (decide_eq_true hnm)
        clear hnm
        go_wp2_with fail
        go_ret
        exact ⟨by rw [HNM.out]; rfl, F⟩
  · have q1 : ((n.length : Int) != (m.length : Int)) = true := by simp; omega
    have q2 : (n.length != m.length) = true := by simpa using hlen
    have q3 : ((n.length : Int) == (m.length : Int)) = false := by simp; omega
    have q4 : (n.length == m.length) = false := by simpa using hlen
    have hne : n ≠ m := fun e => hlen (by rw [e])
    have HNE := Lib.hid (decide_eq_false hne)
    clear hne hlen
    go_enter Tryz.func24, Tryz.ntmps24
    go_wp2_with fail
    go_ret
    exact ⟨by rw [HNE.out]; rfl, Fr.refl _⟩
end Go.Proofs.YtgffhiopbnkjbaaGreatDoor

namespace Go.Q
open Go Go.RowKit
theorem rdnKey_one (p : Part) : rdnKeyS [p] = attrKeyS p.o p.b := by
  unfold rdnKeyS partKeys sortS
  rw [List.map_cons, List.map_nil, List.mergeSort_singleton]
  have e : Lib.compact [attrKeyS p.o p.b] = [attrKeyS p.o p.b] := by
    simp [Lib.compact, Lib.compactUpTo, Lib.keeps]
  rw [e, Lib.join_one]
theorem kind_tag {k : Int} (h : kindOk k = true) : tagGood (tagOf k) ∧ (tagOf k).cls = 0 ∧ (tagOf k).made = false ∧ (tagOf k).num = k := by
  have hk : k = 12 ∨ k = 19 ∨ k = 20 ∨ k = 22 ∨ k = 26 ∨ k = 30 := by simpa [kindOk] using h
  refine ⟨good_of (by omega) (by omega), rfl, ?_, rfl⟩
  rcases hk with r | r | r | r | r | r <;> subst r <;> rfl
theorem textRead_wrap {k : Int} {b : List UInt8} (h : rightS k b = true) (hl : b.length ≤ 16777216) : textReadS (wrapS (tagOf k) b) = .ok (k, b, (wrapS (tagOf k) b).length) := by
  have hk : kindOk k = true := by unfold rightS at h; rw [Bool.and_eq_true] at h; exact h.1
  obtain ⟨hg, h0, hm, hn⟩ := kind_tag hk
  have hr := wrap_read hg hl []
  rw [List.append_nil] at hr
  have hlen := wrap_len (tagOf k) b
  have hd : (wrapS (tagOf k) b).drop (1 + (lenBytes b.length).length) = b := by
    unfold wrapS
    rw [Nat.add_comm, List.drop_succ_cons, List.drop_left]
  unfold textReadS
  rw [hr]
  simp only [h0, hm, hn, hk, hd, List.take_length, h, if_true]
  rw [if_neg (by simp), if_neg (by omega)]
  simp only [hlen]
theorem single_wrap {t : Tag} (h : tagGood t) {l : List UInt8} (hl : l.length ≤ 16777216) : singleB (wrapS t l) = true := by
  unfold singleB allS
  rw [wrap_single h hl _ (by rw [wrap_len]; omega)]
  rfl
theorem attr_some {o : List Int} {k : Int} {b : List UInt8} (ho : oidOk o = true) (h : kindOk k = true) (hl : b.length ≤ 16777216) : (attrS o (wrapS (tagOf k) b)).isSome = true := by
  unfold attrS
  rw [ho, single_wrap (kind_tag h).1 hl]
  rfl
/-- A name of one part. -/
abbrev oneN (o : List Int) (v : List UInt8) : List (List Part) := [[⟨o, v⟩]]
theorem oneN_ok {o : List Int} {v : List UInt8} (h : (attrS o v).isSome = true) : nameOk (oneN o v) = true := by
  unfold nameOk rdnS
  obtain ⟨x, hx⟩ := Option.isSome_iff_exists.1 h
  simp [stepsS, hx]
theorem oneN_key (o : List Int) (v : List UInt8) : nameKeyS (oneN o v) = attrKeyS o v := by
  unfold nameKeyS
  rw [List.map_cons, List.map_nil, Lib.join_one, rdnKey_one]
theorem attrKey_wrap {o : List Int} {k : Int} {b : List UInt8} (h : rightS k b = true) (hl : b.length ≤ 16777216) : attrKeyS o (wrapS (tagOf k) b) = oidTextS o ++ ([61, 116] ++ hexS (ofS 12 (foldS (signsS k b)))) := by
  unfold attrKeyS
  rw [textRead_wrap h hl]
  rfl
theorem right_kind {k : Int} {b : List UInt8} (h : rightS k b = true) : kindOk k = true := by unfold rightS at h; rw [Bool.and_eq_true] at h; exact h.1
/-- Texts with the same signs mean the same. -/
theorem same_signs {o : List Int} {k m : Int} {b c : List UInt8} (ho : oidOk o = true) (hb : rightS k b = true) (hc : rightS m c = true) (hs : signsS k b = signsS m c) (hl : b.length ≤ 16777216) (hm : c.length ≤ 16777216) :
    nameSameS (oneN o (wrapS (tagOf k) b)) (oneN o (wrapS (tagOf m) c)) = true := by
  unfold nameSameS
  rw [oneN_ok (attr_some ho (right_kind hb) hl), oneN_ok (attr_some ho (right_kind hc) hm), oneN_key, oneN_key, attrKey_wrap hb hl, attrKey_wrap hc hm, hs]
  simp
/-! ### An oid's text tells it -/
theorem numVal_snoc (l : List UInt8) (x : UInt8) : numVal (l ++ [x]) = 10 * numVal l + (x.toNat - 48) := by
  unfold numVal
  simp [List.foldl_append]
theorem dec_val (u : Nat) : numVal (Lib.decDigits u) = u ∧ ∀ x ∈ Lib.decDigits u, x ≠ 46 ∧ x ≠ 61 := by
  have hx : ∀ n : Nat, n < 10 → UInt8.ofNat (48 + n) ≠ 46 ∧ UInt8.ofNat (48 + n) ≠ 61 := by decide
  induction u using Nat.strongRecOn with
  | _ u ih =>
    rw [Lib.decDigits]
    by_cases h : u < 10
    · rw [dif_pos h]
      have e := u8 (48 + u) (by omega)
      exact ⟨by simp only [numVal, List.foldl_cons, List.foldl_nil, e]; omega, fun x hm => by rw [List.mem_singleton.1 hm]; exact hx u h⟩
    · rw [dif_neg h]
      obtain ⟨h1, h2⟩ := ih (u / 10) (by omega)
      have e := u8 (48 + u % 10) (by omega)
      refine ⟨by rw [numVal_snoc, h1, e]; omega, fun x hm => ?_⟩
      rcases List.mem_append.1 hm with hm | hm
      · exact h2 x hm
      · rw [List.mem_singleton.1 hm]
        exact hx (u % 10) (by omega)
theorem itoa_val {n : Int} (h : 0 ≤ n) : (numVal (Lib.itoa n) : Int) = n ∧ ∀ x ∈ Lib.itoa n, x ≠ 46 ∧ x ≠ 61 := by
  unfold Lib.itoa
  rw [if_neg (by omega)]
  obtain ⟨h1, h2⟩ := dec_val n.toNat
  exact ⟨by rw [h1]; omega, h2⟩
theorem cut_free (c : UInt8) : ∀ l : List UInt8, (∀ x ∈ l, x ≠ c) → ∀ r, cutAt c (l ++ c :: r) = l :: cutAt c r
  | [], _, r => by simp [cutAt]
  | x :: t, h, r => by
    have ih := cut_free c t (fun y hy => h y (by simp [hy])) r
    simp only [List.cons_append, cutAt, if_neg (h x (by simp)), ih]
theorem cut_alone (c : UInt8) : ∀ l : List UInt8, (∀ x ∈ l, x ≠ c) → cutAt c l = [l]
  | [], _ => rfl
  | x :: t, h => by
    simp only [cutAt, if_neg (h x (by simp)), cut_alone c t (fun y hy => h y (by simp [hy]))]
theorem oidText_cut : ∀ (n : Int) (t : List Int), (∀ m ∈ n :: t, 0 ≤ m) → cutAt 46 (oidTextS (n :: t)) = (n :: t).map Lib.itoa
  | n, [], h => by
    have hn := (itoa_val (h n (by simp))).2
    simp only [oidTextS, List.flatMap_nil, List.append_nil, List.map_cons, List.map_nil]
    exact cut_alone 46 _ (fun x hx => (hn x hx).1)
  | n, m :: t, h => by
    have hn := (itoa_val (h n (by simp))).2
    have ih := oidText_cut m t (fun y hy => h y (by simp [List.mem_cons.1 hy]))
    simp only [oidTextS] at ih
    simp only [oidTextS, List.flatMap_cons, List.cons_append]
    rw [cut_free 46 _ (fun x hx => (hn x hx).1), ih]
    simp
theorem oidText_inj {o p : List Int} (ho : oidOk o = true) (hp : oidOk p = true) (h : oidTextS o = oidTextS p) : o = p := by
  have key : ∀ {q : List Int}, oidOk q = true → 2 ≤ q.length ∧ ∀ n ∈ q, 0 ≤ n := fun {q} hq => by
    simp only [oidOk, Bool.and_eq_true, decide_eq_true_eq] at hq
    refine ⟨hq.1.1.1, fun n hn => ?_⟩
    have := List.all_eq_true.1 hq.1.2 n hn
    simp only [arcOk, decide_eq_true_eq] at this
    omega
  obtain ⟨h1, h2⟩ := key ho
  obtain ⟨h3, h4⟩ := key hp
  match o, p, h1, h3 with
  | x :: s, y :: t, _, _ =>
    have e := congrArg (cutAt 46) h
    rw [oidText_cut x s h2, oidText_cut y t h4] at e
    have e2 := congrArg (List.map fun l => (numVal l : Int)) e
    rw [List.map_map, List.map_map] at e2
    have e3 : ∀ {q : List Int}, (∀ n ∈ q, 0 ≤ n) → q.map ((fun l => (numVal l : Int)) ∘ Lib.itoa) = q := fun {q} hq => (List.map_congr_left (fun m hm => (itoa_val (hq m hm)).1)).trans (List.map_id q)
    rw [e3 h2, e3 h4] at e2
    exact e2
/-- Another type does not mean the same. -/
theorem same_types {o p : List Int} {k : Int} {b : List UInt8} (ho : oidOk o = true) (hp : oidOk p = true) (hb : rightS k b = true) (hl : b.length ≤ 16777216) :
    nameSameS (oneN o (wrapS (tagOf k) b)) (oneN p (wrapS (tagOf k) b)) = decide (o = p) := by
  unfold nameSameS
  rw [oneN_ok (attr_some ho (right_kind hb) hl), oneN_ok (attr_some hp (right_kind hb) hl), oneN_key, oneN_key, attrKey_wrap hb hl, attrKey_wrap hb hl, Bool.true_and, Bool.true_and]
  refine decide_eq_decide.2 ⟨fun h => oidText_inj ho hp (List.append_cancel_right h), fun h => by rw [h]⟩
end Go.Q

namespace Go.Q
open Go Go.RowKit
def knT1 : List UInt8 := [50, 46, 53, 46, 52, 46, 51, 61, 67, 65]
def knT2 : List UInt8 := [50, 46, 53, 46, 52, 46, 49, 48, 61, 32, 70, 111, 111, 32, 32, 66, 97, 114, 32]
def knT3 : List UInt8 := [50, 46, 53, 46, 52, 46, 51, 61, 99, 97]
def knT4 : List UInt8 := [50, 46, 53, 46, 52, 46, 49, 48, 61, 102, 111, 111, 32, 98, 97, 114]
def knV1 : List UInt8 := wrapS (tagOf 19) ([67, 65])
def knV2 : List UInt8 := wrapS (tagOf 19) ([32, 70, 111, 111, 32, 32, 66, 97, 114, 32])
def knV3 : List UInt8 := wrapS (tagOf 19) ([99, 97])
def knV4 : List UInt8 := wrapS (tagOf 19) ([102, 111, 111, 32, 98, 97, 114])
def knA : List (List Part) := [[⟨[2, 5, 4, 3], knV1⟩], [⟨[2, 5, 4, 10], knV2⟩]]
def knB : List (List Part) := [[⟨[2, 5, 4, 3], knV3⟩], [⟨[2, 5, 4, 10], knV4⟩]]
theorem knA_of : nameOfS [knT1, knT2] = .ok knA := by kernel_rfl
theorem knB_of : nameOfS [knT3, knT4] = .ok knB := by kernel_rfl
theorem knA_ok : nameOk knA = true := by kernel_rfl
theorem knA1_ok : nameOk (knA.take 1) = true := by kernel_rfl
theorem knB_ok : nameOk knB = true := by kernel_rfl
theorem name2_key (p q : Part) : nameKeyS [[p], [q]] = attrKeyS p.o p.b ++ ([47] ++ attrKeyS q.o q.b) := by
  unfold nameKeyS
  rw [List.map_cons, List.map_cons, List.map_nil, rdnKey_one, rdnKey_one, Lib.join_cons]
  simp [Lib.joinTail]
theorem kn_same : nameSameS knA knB = true := by
  unfold nameSameS
  rw [knA_ok, knB_ok]
  have e1 : foldS (signsS 19 ([67, 65])) = foldS (signsS 19 ([99, 97])) := by kernel_rfl
  have e2 : foldS (signsS 19 ([32, 70, 111, 111, 32, 32, 66, 97, 114, 32])) = foldS (signsS 19 ([102, 111, 111, 32, 98, 97, 114])) := by kernel_rfl
  have e : nameKeyS knA = nameKeyS knB := by
    unfold knA knB
    rw [name2_key, name2_key]
    unfold knV1 knV2 knV3 knV4
    rw [attrKey_wrap (by kernel_rfl) (of_decide_eq_true (by kernel_rfl)), attrKey_wrap (by kernel_rfl) (of_decide_eq_true (by kernel_rfl)), attrKey_wrap (by kernel_rfl) (of_decide_eq_true (by kernel_rfl)), attrKey_wrap (by kernel_rfl) (of_decide_eq_true (by kernel_rfl)), e1, e2]
  rw [e]
  simp
theorem kn_texts : textsS knA [2, 5, 4, 3] = [[67, 65]] := by
  unfold textsS
  rw [knA_ok]
  kernel_rfl
theorem kn_front : nameSameS knA (knA.take 1) = false := by
  unfold nameSameS
  rw [knA_ok, knA1_ok]
  have e : ¬ nameKeyS knA = nameKeyS (knA.take 1) := fun h => by
    have h2 := congrArg List.length h
    rw [show knA.take 1 = oneN [2, 5, 4, 3] knV1 from rfl, oneN_key] at h2
    unfold knA at h2
    rw [name2_key] at h2
    simp only [List.length_append, List.length_cons, List.length_nil] at h2
    omega
  rw [decide_eq_false e]
  rfl
theorem kn_few : ∀ r ∈ knA, fewB r := by
  intro r hr p hp
  simp only [knA, List.mem_cons, List.not_mem_nil, or_false] at hr
  rcases hr with rfl | rfl <;> (rw [List.mem_singleton.1 hp]; exact of_decide_eq_true (by kernel_rfl))
theorem kn_fewB : ∀ r ∈ knB, fewB r := by
  intro r hr p hp
  simp only [knB, List.mem_cons, List.not_mem_nil, or_false] at hr
  rcases hr with rfl | rfl <;> (rw [List.mem_singleton.1 hp]; exact of_decide_eq_true (by kernel_rfl))
/-- The first steps of a name. -/
theorem NameAt.take {w : World} {a : Option Addr} {m cap : Nat} {n : List (List Part)} (h : NameAt w (.slice a m cap) n) (k : Nat) (hk : k ≤ n.length) (cap' : Nat) (hc : k ≤ cap') (hm : cap' ≤ maxLen) : NameAt w (.slice a k cap') (n.take k) := by
  obtain ⟨a0, cap0, he, h1, h2, h3⟩ := h
  simp only [Value.slice.injEq] at he
  obtain ⟨rfl, rfl, rfl⟩ := he
  have hl : (n.take k).length = k := by rw [List.length_take]; omega
  refine ⟨a, cap', by rw [hl], by omega, hm, fun h0 => ?_⟩
  obtain ⟨b, o, rfl, hy⟩ := h3 (by omega)
  refine ⟨b, o, rfl, fun i r hr => hy i r ?_⟩
  rw [List.getElem?_take] at hr
  split at hr
  · exact hr
  · cases hr
end Go.Q

namespace Go.Proofs.YtgffhiopbnkjbaaGreatDoor
open Go Go.RowKit Go.Q

set_option maxRecDepth 20000 in
set_option maxHeartbeats 2000000 in
theorem nmKnown_any (w : World) (hE : Env w) :
    Calls Tryz.prog 12 #[] w fun e w' => e = .returned (.bool true) ∧ Fr (fun _ => False) w w' := by
  have HE := Lib.hid hE
  have strs2 : ∀ (W : World) (x y : List UInt8), Strs (W.alloc (.cells #[str x, str y] 9)) (.slice (some ⟨W.heap.size, 0, none⟩) 2 2) [x, y] := fun W x y => Vals.of_block (Blk.new W 9 #[str x, str y]) (by unfold maxLen; simp)
  have few2 : ∀ x y : List UInt8, x.length ≤ 10000000 → y.length ≤ 10000000 → ∀ k ∈ [x, y], k.length ≤ 10000000 := fun x y hx hy k hk => by
    rcases List.mem_cons.1 hk with rfl | hk
    · exact hx
    · rw [List.mem_singleton.1 hk]; exact hy
  have HS2 := Lib.hid strs2
  have HF2 := Lib.hid few2
  clear hE strs2 few2
  go_enter Tryz.func12, Tryz.ntmps12
  go_wp2_with fail
  have G1 : Fr (fun _ => False) w (w.alloc (.cells #[str knT1, str knT2] 9)) := (Fr.refl w).alloc _
  refine (nameOf_any _ [knT1, knT2] _ (HS2.out w knT1 knT2) (HE.out.old G1) (HF2.out knT1 knT2 (by decide) (by decide)) (by simp)).mono ?_
  rintro e w1 ⟨hout, F1⟩
  unfold NameOfOut at hout
  rw [knA_of] at hout
  obtain ⟨vA, rfl, hA⟩ := hout
  have hAt := hA.at
  obtain ⟨aA, cA, rfl⟩ := hA.shape
  have hcA : 2 ≤ cA := by
    obtain ⟨a0, c0, he, h1, _⟩ := hAt
    simp only [Value.slice.injEq] at he
    obtain ⟨-, -, rfl⟩ := he
    exact h1
  have hmA : cA ≤ maxLen := by
    obtain ⟨a0, c0, he, _, h1, _⟩ := hAt
    simp only [Value.slice.injEq] at he
    obtain ⟨-, -, rfl⟩ := he
    exact h1
  rw [show knA.length = 2 from rfl] at *
  have HA := Lib.hid hAt
  have HG1 := Lib.hid (G1.trans F1)
  have HMA := Lib.hid hmA
  clear hA hAt F1 G1 hmA
  go_wp2_with fail
  have G2 : Fr (fun _ => False) w1 (w1.alloc (.cells #[str knT3, str knT4] 9)) := (Fr.refl w1).alloc _
  refine (nameOf_any _ [knT3, knT4] _ (HS2.out w1 knT3 knT4) ((HE.out.old HG1.out).old G2) (HF2.out knT3 knT4 (by decide) (by decide)) (by simp)).mono ?_
  rintro e w2 ⟨hout, F2⟩
  unfold NameOfOut at hout
  rw [knB_of] at hout
  obtain ⟨vB, rfl, hB⟩ := hout
  have hBt := hB.at
  obtain ⟨aB, cB, rfl⟩ := hB.shape
  rw [show knB.length = 2 from rfl] at *
  have HA2 := Lib.hid (HA.out.old (G2.trans F2))
  have HB2 := Lib.hid hBt
  have HG2 := Lib.hid ((HG1.out.trans G2).trans F2)
  clear hB hBt F2 G2 HA HG1
  go_wp2_with fail
  have G3 : Fr (fun _ => False) w2 (w2.alloc (.cells #[.int .i64 2, .int .i64 5, .int .i64 4, .int .i64 3] 3)) := (Fr.refl w2).alloc _
  have hI : Ints (w2.alloc (.cells #[.int .i64 2, .int .i64 5, .int .i64 4, .int .i64 3] 3)) (.slice (some ⟨w2.heap.size, 0, none⟩) 4 4) [2, 5, 4, 3] := Vals.of_block (Blk.new w2 3 #[.int .i64 2, .int .i64 5, .int .i64 4, .int .i64 3]) (by unfold maxLen; simp)
  refine (texts_any _ _ knA [2, 5, 4, 3] _ (HA2.out.old G3) hI kn_few ((HE.out.old HG2.out).old G3)).mono ?_
  rintro e w3 ⟨⟨x, rfl, hx⟩, F3⟩
  rw [kn_texts] at hx
  obtain ⟨ax, cx, rfl, -, -, hy⟩ := hx.form
  obtain ⟨bx, ox, rfl, hz⟩ := hy (by simp)
  have ex := hz 0 _ rfl
  simp only [Nat.add_zero] at ex
  simp only [List.length_cons, List.length_nil, Nat.zero_add] at *
  have HA3 := Lib.hid (HA2.out.old (G3.trans F3))
  have HB3 := Lib.hid (HB2.out.old (G3.trans F3))
  have HG3 := Lib.hid ((HG2.out.trans G3).trans F3)
  have HEX := Lib.hid ex
  clear hx hy hz hI F3 G3 HA2 HB2 HG2
  have HC1 := Lib.hid (nameSame_any _ _ knA knB w3 HA3.out HB3.out kn_few kn_fewB (HE.out.old HG3.out))
  rw [kn_same] at HC1
  go_wp2_with fail
  refine HC1.out.mono ?_
  rintro e w4 ⟨rfl, F4⟩
  have ex4 := F4.cell HEX.out (fun h => h)
  have hq1 : (([67, 65] : List UInt8) == [67, 65]) = true := rfl
  have r1 : (1 : Int) ≤ (cA : Int) := by omega
  have HA4 := Lib.hid (HA3.out.old F4)
  have HC2 := Lib.hid (nameSame_any _ _ knA (knA.take 1) w4 HA4.out (NameAt.take HA4.out 1 (by decide) cA (by omega) HMA.out) kn_few (fun r hr => kn_few r (List.mem_of_mem_take hr)) (HE.out.old (HG3.out.trans F4)))
  rw [kn_front] at HC2
  have HG4 := Lib.hid (HG3.out.trans F4)
  clear F4 ex HC1
  go_wp2_with fail
  refine HC2.out.mono ?_
  rintro e w5 ⟨rfl, F5⟩
  go_wp2_with fail
  go_ret
  exact ⟨rfl, HG4.out.trans F5⟩
end Go.Proofs.YtgffhiopbnkjbaaGreatDoor
