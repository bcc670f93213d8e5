/-
  The rows of calls that the cache's laws are given: how they lie in memory, and that what is read as data lies so.
-/
import Derived.Test.YtjcjebmlibllbaaCaRing
import Derived.ProofKit
import Derived.Deep.Slices
namespace Go.Proofs.Ytjcjebmlibllbaa
open Go Go.RowKit Go.Q

/-- A call, as the law's arguments hold it. -/
structure Act where
  kind : Int
  s : Slot
  now : Int
  ka : Option Addr
  kl : Nat
  kc : Nat

/-- The cells of a call's row from an address on. -/
def ActAt (w : World) (b o : Nat) (a : Act) : Prop :=
  w.cell? ⟨b, o, none⟩ = some (.int .i64 a.kind) ∧ w.cell? ⟨b, o + 1, none⟩ = some (.string a.s.key) ∧ w.cell? ⟨b, o + 2, none⟩ = some (.int .i64 a.s.k) ∧ w.cell? ⟨b, o + 3, none⟩ = some (.int .i64 a.s.date) ∧
  w.cell? ⟨b, o + 4, none⟩ = some (.int .i64 a.s.reason) ∧ w.cell? ⟨b, o + 5, none⟩ = some (.int .i64 a.s.cause) ∧ w.cell? ⟨b, o + 6, none⟩ = some (.int .i64 a.s.fr) ∧ w.cell? ⟨b, o + 7, none⟩ = some (.int .i64 a.s.to) ∧
  w.cell? ⟨b, o + 8, none⟩ = some (.int .i64 a.now) ∧ w.cell? ⟨b, o + 9, none⟩ = some (.slice a.ka a.kl a.kc)

theorem ActAt.fr {S : Nat → Prop} {w w' : World} {b o : Nat} {a : Act} (h : ActAt w b o a) (f : Fr S w w') (hb : b < w.heap.size → ¬ S b) : ActAt w' b o a := by
  obtain ⟨h0, h1, h2, h3, h4, h5, h6, h7, h8, h9⟩ := h
  have hn := hb (World.block_lt_of_cell? w _ h0)
  exact ⟨f.cell h0 hn, f.cell h1 hn, f.cell h2 hn, f.cell h3 hn, f.cell h4 hn, f.cell h5 hn, f.cell h6 hn, f.cell h7 hn, f.cell h8 hn, f.cell h9 hn⟩


section
variable {H : Type} {enc : TypeId × Value → H} {P : Program} {w : World} {base fuel : Nat} {spare : Nat → Bool} {held : Bool} {t : TypeId} {cs : List Value} {x : DataW H × List MemPlace}

/-- A field's cells read as a value of its type. -/
theorem fld {fs : Array Field} (ht : P.underlying t = some (.struct fs)) (h : DataW.trod enc P w base spare held fuel t cs = some x) (i : Nat) {f : Field} (hf : fs[i]? = some f) :
    ∃ n y, DataW.trod enc P w base spare held n f.type ((cs.drop f.offset).take (P.cellsOf f.type)) = some y := by
  obtain ⟨xs, n, _, _, _, hlen, hall⟩ := DataW.trod_struct ht h
  have hi : i < fs.size := (Array.getElem?_eq_some_iff.1 hf).1
  have := hall i f hf
  rw [List.getElem?_eq_getElem (by omega)] at this
  exact ⟨n, _, this⟩

theorem one_cell {o : Nat} {v : Value} (h : (cs.drop o).take 1 = [v]) : cs[o]? = some v := by
  have := congrArg (·[0]?) h
  simpa [List.getElem?_take, List.getElem?_drop] using this

theorem sub_cell {o n i : Nat} {v : Value} (h : ((cs.drop o).take n)[i]? = some v) : cs[o + i]? = some v := by
  rw [List.getElem?_take] at h
  split at h
  · simpa [List.getElem?_drop] using h
  · cases h

theorem fld_int {fs : Array Field} (ht : P.underlying t = some (.struct fs)) (h : DataW.trod enc P w base spare held fuel t cs = some x) (i : Nat) {f : Field} (hf : fs[i]? = some f) {k : IntKind} (hk : P.underlying f.type = some (.int k)) (hc : P.cellsOf f.type = 1) :
    ∃ n, cs[f.offset]? = some (.int k n) ∧ (Lit.int k n).wf = true := by
  obtain ⟨m, y, hy⟩ := fld ht h i hf
  rw [hc] at hy
  obtain ⟨n, e, _, hw⟩ := DataW.trod_int hk hy
  exact ⟨n, one_cell e, hw⟩
theorem fld_string {fs : Array Field} (ht : P.underlying t = some (.struct fs)) (h : DataW.trod enc P w base spare held fuel t cs = some x) (i : Nat) {f : Field} (hf : fs[i]? = some f) (hk : P.underlying f.type = some .string) (hc : P.cellsOf f.type = 1) :
    ∃ s, cs[f.offset]? = some (.string s) ∧ s.size ≤ maxLen := by
  obtain ⟨m, y, hy⟩ := fld ht h i hf
  rw [hc] at hy
  obtain ⟨s, e, _, hw⟩ := DataW.trod_string hk hy
  exact ⟨s, one_cell e, hw⟩
theorem fld_slice {fs : Array Field} (ht : P.underlying t = some (.struct fs)) (h : DataW.trod enc P w base spare held fuel t cs = some x) (i : Nat) {f : Field} (hf : fs[i]? = some f) {e : TypeId} (hk : P.underlying f.type = some (.slice e)) (hc : P.cellsOf f.type = 1) :
    ∃ a l c n y, cs[f.offset]? = some (.slice a l c) ∧ DataW.trod enc P w base spare held n f.type [.slice a l c] = some y := by
  obtain ⟨m, y, hy⟩ := fld ht h i hf
  rw [hc] at hy
  rcases Go.Deep.open_slice hk hy with ⟨e1, _⟩ | ⟨a, l, c, _, _, _, _, e1, _⟩
  · rw [e1] at hy; exact ⟨_, _, _, m, y, one_cell e1, hy⟩
  · rw [e1] at hy; exact ⟨_, _, _, m, y, one_cell e1, hy⟩
end

theorem c3 : Try.prog.cellsOf 3 = 1 := by kernel_rfl
theorem c9 : Try.prog.cellsOf 9 = 1 := by kernel_rfl
theorem c32 : Try.prog.cellsOf 32 = 1 := by kernel_rfl
theorem c34 : Try.prog.cellsOf 34 = 10 := by kernel_rfl
theorem c29 : Try.prog.cellsOf 29 = 4 := by kernel_rfl
theorem c31 : Try.prog.cellsOf 31 = 2 := by kernel_rfl

section
variable {H : Type} {enc : TypeId × Value → H} {w : World} {base fuel : Nat} {spare : Nat → Bool} {held : Bool}

/-- The cells of a call's row, off its reading. -/
theorem act_cells {cs : List Value} {x : DataW H × List MemPlace} (h : DataW.trod enc Try.prog w base spare held fuel 34 cs = some x) :
    ∃ (a : Act) (n : Nat) (y : DataW H × List MemPlace), cs[0]? = some (.int .i64 a.kind) ∧ cs[1]? = some (.string a.s.key) ∧ cs[2]? = some (.int .i64 a.s.k) ∧ cs[3]? = some (.int .i64 a.s.date) ∧ cs[4]? = some (.int .i64 a.s.reason) ∧ cs[5]? = some (.int .i64 a.s.cause) ∧
      cs[6]? = some (.int .i64 a.s.fr) ∧ cs[7]? = some (.int .i64 a.s.to) ∧ cs[8]? = some (.int .i64 a.now) ∧ cs[9]? = some (.slice a.ka a.kl a.kc) ∧ a.s.key.size ≤ maxLen ∧ DataW.trod enc Try.prog w base spare held n 32 [.slice a.ka a.kl a.kc] = some y := by
  have U := Try.underlying34
  obtain ⟨k0, h0, _⟩ := fld_int U h 0 rfl Try.underlying3 c3
  obtain ⟨k1, h1, hs⟩ := fld_string U h 1 rfl Try.underlying9 c9
  obtain ⟨n2, y2, g2⟩ := fld U h 2 rfl
  obtain ⟨n3, y3, g3⟩ := fld U h 3 rfl
  obtain ⟨k8, h8, _⟩ := fld_int U h 4 rfl Try.underlying3 c3
  obtain ⟨a9, l9, c9, n9, y9, h9, g9⟩ := fld_slice U h 5 rfl Try.underlying32 c32
  have g2' : DataW.trod enc Try.prog w base spare held n2 29 ((cs.drop 2).take 4) = some y2 := by rw [← c29]; exact g2
  have g3' : DataW.trod enc Try.prog w base spare held n3 31 ((cs.drop 6).take 2) = some y3 := by rw [← c31]; exact g3
  have U2 := Try.underlying29
  have U3 := Try.underlying31
  obtain ⟨k2, h2, _⟩ := fld_int U2 g2' 0 rfl Try.underlying3 c3
  obtain ⟨k3, h3, _⟩ := fld_int U2 g2' 1 rfl Try.underlying3 c3
  obtain ⟨k4, h4, _⟩ := fld_int U2 g2' 2 rfl Try.underlying3 c3
  obtain ⟨k5, h5, _⟩ := fld_int U2 g2' 3 rfl Try.underlying3 c3
  obtain ⟨k6, h6, _⟩ := fld_int U3 g3' 0 rfl Try.underlying3 c3
  obtain ⟨k7, h7, _⟩ := fld_int U3 g3' 1 rfl Try.underlying3 c3
  exact ⟨⟨k0, ⟨k1, k2, k3, k4, k5, k6, k7⟩, k8, a9, l9, c9⟩, n9, y9, h0, h1, sub_cell h2, sub_cell h3, sub_cell h4, sub_cell h5, sub_cell h6, sub_cell h7, h8, h9, hs, g9⟩

theorem add_spot {a : Addr} {v : Value} (h : w.cell? ((a.add 0).add 0) = some v) : a.spot = none := by
  have := World.cell?_spot h
  simpa [Addr.add] using this
theorem add_plain (b o i j : Nat) : ((⟨b, o, none⟩ : Addr).add i).add j = ⟨b, o + i + j, none⟩ := by
  unfold Addr.add
  split <;> split <;> simp_all

/-- What a call's reading says of its row in memory. -/
def ActRead (enc : TypeId × Value → H) (w : World) (base : Nat) (spare : Nat → Bool) (held : Bool) (a : Act) : Prop :=
  a.s.key.size ≤ maxLen ∧ ∃ n y, DataW.trod enc Try.prog w base spare held n 32 [.slice a.ka a.kl a.kc] = some y

/-- A slice of calls: where there is one, its rows lie behind one another. -/
theorem open_acts {a : Option Addr} {len cap : Nat} {d : DataW H} {ps : List MemPlace} (h : DataW.Trod enc Try.prog w base spare held 22 (.slice a len cap) d ps) :
    ∃ (b o : Nat) (l : Nat → Act), (0 < len → a = some ⟨b, o, none⟩) ∧ ∀ i, i < len → ActAt w b (o + i * 10) (l i) ∧ ActRead enc w base spare held (l i) := by
  obtain ⟨fuel, hf⟩ := h
  have dummy : Act := ⟨0, ⟨⟨#[]⟩, 0, 0, 0, 0, 0, 0⟩, 0, none, 0, 0⟩
  rcases Go.Deep.open_slice Try.underlying22 hf with ⟨hcs, _⟩ | ⟨a', len', cap', m, n, D, Pl, hcs, _, hl, hm, hmm, _, hx⟩
  · simp [Value.cells] at hcs
    obtain ⟨rfl, rfl, rfl⟩ := hcs
    exact ⟨0, 0, fun _ => dummy, fun h => absurd h (Nat.lt_irrefl _), fun i hi => absurd hi (Nat.not_lt_zero _)⟩
  · simp [Value.cells] at hcs
    obtain ⟨rfl, rfl, rfl⟩ := hcs
    have hlm : len ≤ m := by rw [hmm]; split <;> omega
    by_cases h0 : len = 0
    · subst h0
      exact ⟨0, 0, fun _ => dummy, fun h => absurd h (Nat.lt_irrefl _), fun i hi => absurd hi (Nat.not_lt_zero _)⟩
    · have sp : a'.spot = none := by
        obtain ⟨cs', h1, h2⟩ := hx 0 (by omega)
        rw [c34] at h1
        obtain ⟨_, hlen, hcell⟩ := World.cells?_some h1
        obtain ⟨q, n', y', g0, _⟩ := act_cells h2
        have e := hcell 0 (by omega)
        rw [g0] at e
        exact add_spot e
      obtain ⟨b, o, spt⟩ := a'
      simp only at sp
      subst sp
      have key : ∀ i, i < len → ∃ q : Act, ActAt w b (o + i * 10) q ∧ ActRead enc w base spare held q := fun i hi => by
        obtain ⟨cs', h1, h2⟩ := hx i (by omega)
        rw [c34] at h1
        obtain ⟨_, hlen, hcell⟩ := World.cells?_some h1
        obtain ⟨q, n', y', g0, g1, g2, g3, g4, g5, g6, g7, g8, g9, hs, hr⟩ := act_cells h2
        have cc : ∀ j v, j < 10 → cs'[j]? = some v → w.cell? ⟨b, o + i * 10 + j, none⟩ = some v := fun j v hj hv => by
          have e := hcell j hj
          rw [add_plain, hv] at e
          exact e
        exact ⟨q, ⟨cc 0 _ (by omega) g0, cc 1 _ (by omega) g1, cc 2 _ (by omega) g2, cc 3 _ (by omega) g3, cc 4 _ (by omega) g4, cc 5 _ (by omega) g5, cc 6 _ (by omega) g6, cc 7 _ (by omega) g7, cc 8 _ (by omega) g8, cc 9 _ (by omega) g9⟩, hs, n', y', hr⟩
      obtain ⟨l, hl'⟩ : ∃ l : Nat → Act, ∀ i, i < len → ActAt w b (o + i * 10) (l i) ∧ ActRead enc w base spare held (l i) :=
        ⟨fun i => if h : i < len then Classical.choose (key i h) else dummy, fun i hi => by
          simp only [hi, dite_true]
          exact Classical.choose_spec (key i hi)⟩
      exact ⟨b, o, l, fun _ => rfl, hl'⟩
end
end Go.Proofs.Ytjcjebmlibllbaa
