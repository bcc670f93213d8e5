/-
  Merged by program: XNRow XNClone XGRow XGAll XNSort XNSheet XNSheet2 XNSheet3 XNSheet4 XNWrite XR14B XNbLaw XMany XGenSpec XNsLaw XNsTo XNKept XNaOf XGenAt XNSub XNOpen XNOidR XGenB XGenR XNOidQ XNAttrR XNRdnR XNNameR XHeld XR14L XNkLaw XNkKnown XNkWalk1 XNbW XGenRd.
-/
import Derived.Test.YthamenngccaijaaGreatDoorC0b
import Derived.Lib.SliceRun
import Derived.Laws.OwnMore
import Derived.Deep.CutRange
import Derived.Deep.Cut
import Derived.Test.YthamenngccaijaaGreatDoorC0a
namespace Go.Q
open Go Go.RowKit
def ARow (t : TypeId) (w wr : World) (base : Nat) (v : Value) (l : List Part) : Prop :=
  ∃ cs : List Value, wr.ownsRow base t 2 v l.length cs ∧ ∀ (i : Nat) (p : Part), l[i]? = some p → ∃ x y, cs[2 * i]? = some x ∧ cs[2 * i + 1]? = some y ∧ Vals w x (intCells p.o) ∧ Bytes w y p.b
theorem ARow.at {t : TypeId} {w wr : World} {base : Nat} {v : Value} {l : List Part} (h : ARow t w wr base v l) (F : Fr (fun _ => False) w wr) : Attrs wr v l := by
  obtain ⟨cs, ⟨h1, h2⟩, h3⟩ := h
  rcases h2 with ⟨rfl, h0⟩ | ⟨g, cap, cur, rfl, hg, hh, hnc, hcm, hcs, htk⟩
  · exact ⟨none, 0, by rw [h0], by omega, by unfold maxLen; omega, fun h => by omega⟩
  · refine ⟨_, cap, rfl, hnc, hcm, fun _ => ⟨g, 0, rfl, fun i p hp => ?_⟩⟩
    obtain ⟨x, y, e1, e2, e3, e4⟩ := h3 i p hp
    have hi := (List.getElem?_eq_some_iff.1 hp).1
    have gc : ∀ k, k < l.length * 2 → wr.cell? ⟨g, 0 + k, none⟩ = cs[k]? := fun k hk => by
      have := congrArg (fun z : List Value => z[k]?) htk
      simp only [List.getElem?_take, if_pos hk, Array.getElem?_toList] at this
      rw [Nat.zero_add]
      simp only [World.cell?, hh]
      exact this
    refine ⟨x, y, ?_, ?_, e3.old F, e4.old F⟩
    · rw [gc (2 * i) (by omega)]; exact e1
    · rw [Nat.add_assoc, gc (2 * i + 1) (by omega)]; exact e2
theorem ARow.nil (t : TypeId) (w wr : World) (base : Nat) : ARow t w wr base (.slice none 0 0) [] := ⟨[], ⟨rfl, .inl ⟨rfl, rfl⟩⟩, fun i p hp => by simp at hp⟩
theorem ARow.shape {t : TypeId} {w wr : World} {base : Nat} {v : Value} {l : List Part} (h : ARow t w wr base v l) : ∃ a c, v = .slice a l.length c := by
  obtain ⟨us, h1, -⟩ := h
  obtain ⟨a, m, c, rfl, rfl⟩ := own_shape h1
  exact ⟨a, c, rfl⟩
theorem ARow.keep {t : TypeId} {w wr : World} {base : Nat} {v : Value} {l : List Part} (h : ARow t w wr base v l) : ∀ k, v.ownBlock = some k → base ≤ k ∧ k < wr.heap.size := fun k hk => by
  obtain ⟨us, h1, -⟩ := h
  exact h1.lt k hk
theorem ARow.fr {t : TypeId} {S : Nat → Prop} {w wr w' : World} {base : Nat} {v : Value} {l : List Part} (h : ARow t w wr base v l) (f : Fr S wr w') (hS : ∀ k, v.ownBlock = some k → ¬ S k) : ARow t w w' base v l := by
  obtain ⟨us, h1, h2⟩ := h
  exact ⟨us, Go.Proofs.YthamenngccaijaaGreatDoor.ownsRow_fr h1 f hS, h2⟩
theorem ARow.kept {t : TypeId} {w wr : World} {base : Nat} {v : Value} {l : List Part} (h : ARow t w wr base v l) (F : Fr (fun _ => False) w wr) (K : Nat → Prop) (hK : ∀ k, K k → w.heap.size ≤ k ∧ k < base) : Kept (fun W => Attrs W v l) K wr := fun W f =>
  (h.fr f (fun k hk h1 => by have := (h.keep k hk).1; have := (hK k h1).2; omega)).at (F.trans' f (fun i hi h1 => by have := (hK i h1).1; omega))
theorem ARow.add {P : Program} {t s : TypeId} (hu0 : P.underlying s = some (.slice t)) (hinf : Info P t (.agg #[.slice none 0 0, .slice none 0 0]) 2 48) {w wr wa : World} {base : Nat} {v x y : Value} {l : List Part} (h : ARow t w wr base v l) (hb : base ≤ wr.heap.size) (F1 : Fr (fun _ => False) wr wa) (g : Nat) (BX : Blk wa g t #[x, y]) (p : Part) (hx : Ints w x p.o) (hy : Bytes w y p.b) (hn : l.length ≤ 109951162777) :
    ∃ a c w', (Builtin.append_ #[s, s] s #[v, .slice (some ⟨g, 0, none⟩) 1 1]).run P wa = .ok (.slice a (l.length + 1) c) w' ∧ ARow t w w' base (.slice a (l.length + 1) c) (l ++ [p]) ∧ Fr (fun k => v.ownBlock = some k) wr w' := by
  obtain ⟨cs, h1, h2⟩ := h
  have hcl : cs.length = l.length * 2 := h1.1
  obtain ⟨ax, cx, rfl, -⟩ := Ints.form hx
  obtain ⟨ay, cy, rfl, -⟩ := Vals.form hy
  obtain ⟨a, c, w', hrun, h4, F2, h5⟩ := add_gen hu0 hinf rfl (by decide) (by decide) h1 hb F1 g [.slice ax p.o.length cx, .slice ay p.b.length cy] rfl BX (by intro u hu; simp at hu; rcases hu with rfl | rfl <;> rfl) hn
  refine ⟨a, c, w', hrun, ⟨cs ++ [.slice ax p.o.length cx, .slice ay p.b.length cy], by rw [List.length_append]; exact h4, fun i q hq => ?_⟩, F2⟩
  rcases Nat.lt_or_ge i l.length with hi | hi
  · rw [List.getElem?_append_left hi] at hq
    obtain ⟨x, y, e1, e2, e3⟩ := h2 i q hq
    exact ⟨x, y, by rw [List.getElem?_append_left (by omega)]; exact e1, by rw [List.getElem?_append_left (by omega)]; exact e2, e3⟩
  · obtain rfl : i = l.length := by
      have := (List.getElem?_eq_some_iff.1 hq).1
      simp at this
      omega
    rw [List.getElem?_append_right (Nat.le_refl _)] at hq
    simp at hq
    subst hq
    refine ⟨_, _, ?_, ?_, hx, hy⟩
    · rw [List.getElem?_append_right (by omega), show 2 * l.length - cs.length = 0 from by omega]; rfl
    · rw [List.getElem?_append_right (by omega), show 2 * l.length + 1 - cs.length = 1 from by omega]; rfl
def NRow (t : TypeId) (w : World) (base : Nat) (v : Value) (n : List (List Part)) : Prop :=
  ∃ us : List Value, w.ownsRow base t 1 v n.length us ∧ us.length = n.length ∧ ∀ (i : Nat) (u : Value) (r : List Part), us[i]? = some u → n[i]? = some r → Kept (fun W => Attrs W u r) (fun k => v.ownBlock = some k) w
theorem NRow.at {t : TypeId} {w : World} {base : Nat} {v : Value} {n : List (List Part)} (h : NRow t w base v n) : NameAt w v n := by
  obtain ⟨us, h1, h2, h3⟩ := h
  obtain ⟨a, cap, he, hc, hm, hx⟩ := (Vals.of_own h1).1
  rw [h2] at he hc hx
  refine ⟨a, cap, he, hc, hm, fun h0 => ?_⟩
  obtain ⟨b, o, rfl, hy⟩ := hx h0
  refine ⟨b, o, rfl, fun i r hr => ?_⟩
  have hi : i < us.length := by rw [h2]; exact (List.getElem?_eq_some_iff.1 hr).1
  exact ⟨us[i], hy i _ (List.getElem?_eq_getElem hi), (h3 i _ r (List.getElem?_eq_getElem hi) hr).now⟩
theorem NRow.old {t : TypeId} {w w' : World} {base : Nat} {v : Value} {n : List (List Part)} (h : NRow t w base v n) (f : Fr (fun _ => False) w w') : NRow t w' base v n := by
  obtain ⟨us, h1, h2, h3⟩ := h
  exact ⟨us, Go.Proofs.YthamenngccaijaaGreatDoor.ownsRow_fr h1 f (fun _ _ h => h), h2, fun i u r hu hr => (h3 i u r hu hr).old f⟩
theorem NRow.keep {t : TypeId} {w : World} {base : Nat} {v : Value} {n : List (List Part)} (h : NRow t w base v n) : ∀ k, v.ownBlock = some k → base ≤ k ∧ k < w.heap.size := by
  obtain ⟨us, h1, -⟩ := h
  exact (Vals.of_own h1).2
theorem NRow.shape {t : TypeId} {w : World} {base : Nat} {v : Value} {n : List (List Part)} (h : NRow t w base v n) : ∃ a c, v = .slice a n.length c := by
  obtain ⟨us, h1, -⟩ := h
  obtain ⟨a, m, c, rfl, rfl⟩ := own_shape h1
  exact ⟨a, c, rfl⟩
theorem NRow.nil (t : TypeId) (w : World) (base : Nat) : NRow t w base (.slice none 0 0) [] := ⟨[], ⟨rfl, .inl ⟨rfl, rfl⟩⟩, rfl, fun i u r h => by simp at h⟩
theorem NRow.add {P : Program} {t s : TypeId} (hu0 : P.underlying s = some (.slice t)) (hinf : Info P t (.slice none 0 0) 1 24) {w wa : World} {base : Nat} {v : Value} {n : List (List Part)} (h : NRow t w base v n) (hb : base ≤ w.heap.size) (F1 : Fr (fun _ => False) w wa) (g : Nat) (u : Value) (r : List Part) (BX : Blk wa g t #[u]) (hu1 : u.oneCell' = true) (hu : Kept (fun W => Attrs W u r) (fun k => v.ownBlock = some k) w) (hn : n.length ≤ 109951162777) :
    ∃ a c w', (Builtin.append_ #[s, s] s #[v, .slice (some ⟨g, 0, none⟩) 1 1]).run P wa = .ok (.slice a (n.length + 1) c) w' ∧ NRow t w' base (.slice a (n.length + 1) c) (n ++ [r]) ∧ Fr (fun k => v.ownBlock = some k) w w' := by
  obtain ⟨us, h1, h2, h3⟩ := h
  obtain ⟨a, c, w', hrun, h4, F2, h5⟩ := add_gen hu0 hinf rfl (by decide) (by decide) h1 hb F1 g [u] rfl BX (by simpa using hu1) hn
  refine ⟨a, c, w', hrun, ⟨us ++ [u], ?_, by simp [h2], fun i x s hx hs => ?_⟩, F2⟩
  · rw [List.length_append]
    exact h4
  · rcases Nat.lt_or_ge i us.length with hi | hi
    · rw [List.getElem?_append_left hi] at hx
      rw [List.getElem?_append_left (by omega)] at hs
      exact (h3 i x s hx hs).step F2 (fun _ _ h => h) h5
    · obtain rfl : i = us.length := by
        have := (List.getElem?_eq_some_iff.1 hx).1
        simp at this
        omega
      rw [List.getElem?_append_right (Nat.le_refl _)] at hx
      rw [List.getElem?_append_right (by omega)] at hs
      simp at hx
      simp [h2] at hs
      subst hx; subst hs
      exact hu.step F2 (fun _ _ h => h) h5
end Go.Q

namespace Go.Q
open Go Go.RowKit
section
variable {P : Program}
theorem append_none {w : World} {base n : Nat} {t e : TypeId} {v : Value} {xs : List Value} {z : Value} {size bytes : Nat} (hu : P.underlying t = some (.slice e)) (hinf : Info P e z size bytes) (hown : w.ownsRow base e size v n xs) (c : Nat) :
    (Builtin.append_ #[t, t] t #[v, .slice none 0 c]).run P w = .ok v w := by
  obtain ⟨i0, hi0, hz0, hz1, hz2⟩ := info_parts hinf
  rcases hown.2 with ⟨rfl, rfl⟩ | ⟨g, cap, cur, rfl, _, _, hnc, _⟩
  · simp [Builtin.append_, run_underlying hu, sizeOf, typeInfo, hi0, Builtin.lenOf, Builtin.firstCells]
  · simp [Builtin.append_, run_underlying hu, sizeOf, typeInfo, hi0, Builtin.lenOf, Builtin.firstCells, hnc, storeCells]
theorem append_vals {w : World} {base n : Nat} {t e : TypeId} {v y : Value} {xs news : List Value} {z : Value} {bytes : Nat} (hu : P.underlying t = some (.slice e)) (hinf : Info P e z 1 bytes) (hzs : z.cells.size = 1) (hby : bytes ≤ 64)
    (hown : w.ownsRow base e 1 v n xs) (hb : base ≤ w.heap.size) (hy : Vals w y news) (h1 : ∀ u ∈ news, u.oneCell' = true) (hsz : n + news.length ≤ 1099511627776) :
    ∃ a' c' w', (Builtin.append_ #[t, t] t #[v, y]).run P w = .ok (.slice a' (n + news.length) c') w' ∧ w'.ownsRow base e 1 (.slice a' (n + news.length) c') (n + news.length) (xs ++ news) ∧ Fr (fun k => v.ownBlock = some k) w w' ∧ (∀ k, (Value.slice a' (n + news.length) c').ownBlock = some k → v.ownBlock = some k ∨ w.heap.size ≤ k) := by
  obtain ⟨a, cap, rfl, hc, hm, hx⟩ := hy
  cases a with
  | none =>
    have h0 : news = [] := by
      cases news with
      | nil => rfl
      | cons u s => obtain ⟨b, o, e, -⟩ := hx (by simp); cases e
    subst h0
    obtain ⟨av, m, cv, rfl, rfl⟩ := own_shape hown
    exact ⟨av, cv, w, append_none hu hinf hown cap, by simpa using hown, Fr.refl _, fun k hk => .inl hk⟩
  | some ad =>
    refine append_gen hu hinf hzs (by decide) hby hown hb ad news.length cap news (by omega) (fun j u hj => ?_) h1 hsz
    have hj2 := (List.getElem?_eq_some_iff.1 hj).1
    obtain ⟨b, o, e, hy⟩ := hx (by omega)
    simp only [Option.some.injEq] at e
    subst e
    rw [show (⟨b, o, none⟩ : Addr).add j = ⟨b, o + j, none⟩ from by unfold Addr.add; split <;> simp_all]
    exact hy j u hj
end
end Go.Q
namespace Go.Proofs.YthamenngccaijaaGreatDoor
open Go Go.RowKit Go.Q
set_option linter.unusedSimpArgs false
set_option maxRecDepth 20000 in
set_option maxHeartbeats 1000000 in
theorem cloneByte_any (v : Value) (o : List UInt8) (w : World) (h : Bytes w v o) (hl : o.length ≤ 100000000000) :
    Calls Tryz.prog 88 #[v] w fun e w' => (∃ u, e = .returned u ∧ w'.ownsRow w.heap.size 5 1 u o.length (Lib.byteCells o)) ∧ Fr (fun _ => False) w w' := by
  obtain ⟨a, cap, rfl, -⟩ := Vals.form h
  have qT : ∀ (w : World) (a : Option Addr) (n c n' c' : Nat), (binOp .eql 23 (.slice a n c) (.slice none n' c')).run Tryz.prog w = .ok (.bool a.isNone) w := fun w a n c n' c' => Lib.run_eql_slice_nil w _ _ a n c n' c' Tryz.underlying23
  cases a with
  | none =>
    have h0 : o = [] := by
      obtain ⟨a0, c0, he, _, _, hx⟩ := Vals.form h
      cases o with
      | nil => rfl
      | cons u s =>
        obtain ⟨b, o, e, -⟩ := hx (by simp)
        simp only [Value.slice.injEq] at he
        rw [e] at he
        cases he.1
    subst h0
    clear h
    go_enter Tryz.func88, Tryz.ntmps88
    go_wp2_with fail
    go_ret
    exact ⟨⟨_, rfl, rfl, .inl ⟨rfl, rfl⟩⟩, Fr.refl _⟩
  | some ad =>
    have B0 := Blk.new w 5 #[]
    have F0 : Fr (fun _ => False) w (w.alloc (.cells #[] 5)) := (Fr.refl w).alloc _
    have hl2 : (Lib.byteCells o).length = o.length := byteCells_len o
    obtain ⟨a', c', w', hrun, hown, F1, -⟩ := append_vals Tryz.underlying23 info5 rfl (by decide) (own_block B0 0 (Nat.le_refl _) (Nat.zero_le _) w.heap.size (Nat.le_refl _)) F0.size (h.old F0) (byteCells_one o) (by rw [hl2]; omega)
    rw [hl2, Nat.zero_add] at hrun hown
    have HF := Lib.hid (F0.trans' F1 (fun i hi e => by simp [Value.ownBlock] at e; omega))
    have HRUN := Lib.hid hrun
    have HOW := Lib.hid hown
    clear hrun hown F1 B0 F0 h hl2
    go_enter Tryz.func88, Tryz.ntmps88
    go_wp2_with (at_builtin; refine wpList_append_run (by rfl) (.tmp 5) (.tmp 6) 23 (by rfl) _ w' (by exact HRUN.out) ?_)
    go_ret
    exact ⟨⟨_, rfl, HOW.out⟩, HF.out⟩
end Go.Proofs.YthamenngccaijaaGreatDoor

namespace Go.Q
open Go Go.RowKit
def LAt {α : Type} (sz : Nat) (R : World → List Value → α → Prop) (w : World) (v : Value) (l : List α) : Prop :=
  ∃ a cap, v = .slice a l.length cap ∧ l.length ≤ cap ∧ cap ≤ maxLen ∧ (0 < l.length → ∃ b o, a = some ⟨b, o, none⟩ ∧ ∀ i x, l[i]? = some x → ∃ cs, cs.length = sz ∧ (∀ j u, cs[j]? = some u → w.cell? ⟨b, o + sz * i + j, none⟩ = some u) ∧ R w cs x)
def GRow {α : Type} (sz : Nat) (R : World → List Value → α → Prop) (K : Nat → Prop) (t : TypeId) (w : World) (base : Nat) (v : Value) (l : List α) : Prop :=
  ∃ cs : List Value, w.ownsRow base t sz v l.length cs ∧ ∀ i x, l[i]? = some x → ∃ us, us.length = sz ∧ (∀ j u, us[j]? = some u → cs[sz * i + j]? = some u) ∧ Kept (fun W => R W us x) (fun k => v.ownBlock = some k ∨ K k) w
section
variable {α : Type} {sz : Nat} {R : World → List Value → α → Prop} {K : Nat → Prop} {t : TypeId} {w : World} {base : Nat} {v : Value} {l : List α}
theorem LAt.old (hR : ∀ w w' cs x, R w cs x → Fr (fun _ => False) w w' → R w' cs x) {w' : World} (h : LAt sz R w v l) (f : Fr (fun _ => False) w w') : LAt sz R w' v l := by
  obtain ⟨a, cap, rfl, h1, h2, h3⟩ := h
  refine ⟨a, cap, rfl, h1, h2, fun h0 => ?_⟩
  obtain ⟨b, o, rfl, hy⟩ := h3 h0
  refine ⟨b, o, rfl, fun i p hp => ?_⟩
  obtain ⟨cs, e1, e2, e3⟩ := hy i p hp
  exact ⟨cs, e1, fun j u hu => f.cell (e2 j u hu) (fun h => h), hR _ _ _ _ e3 f⟩
theorem GRow.nil (sz : Nat) (R : World → List Value → α → Prop) (K : Nat → Prop) (t : TypeId) (w : World) (base : Nat) : GRow sz R K t w base (.slice none 0 0) [] := ⟨[], ⟨by simp, .inl ⟨rfl, rfl⟩⟩, fun i p hp => by simp at hp⟩
theorem GRow.keep (h : GRow sz R K t w base v l) : ∀ k, v.ownBlock = some k → base ≤ k ∧ k < w.heap.size := fun k hk => by
  obtain ⟨us, h1, -⟩ := h
  exact h1.lt k hk
theorem GRow.shape (h : GRow sz R K t w base v l) : ∃ a c, v = .slice a l.length c := by
  obtain ⟨us, h1, -⟩ := h
  obtain ⟨a, m, c, rfl, rfl⟩ := own_shape h1
  exact ⟨a, c, rfl⟩
theorem GRow.at (h : GRow sz R K t w base v l) (_hs : 0 < sz) : LAt sz R w v l := by
  obtain ⟨cs, ⟨h1, h2⟩, h3⟩ := h
  rcases h2 with ⟨rfl, h0⟩ | ⟨g, cap, cur, rfl, hg, hh, hnc, hcm, hcs, htk⟩
  · exact ⟨none, 0, by rw [h0], by omega, by unfold maxLen; omega, fun h => by omega⟩
  · refine ⟨_, cap, rfl, hnc, hcm, fun _ => ⟨g, 0, rfl, fun i p hp => ?_⟩⟩
    obtain ⟨us, e1, e2, e3⟩ := h3 i p hp
    refine ⟨us, e1, fun j u hu => ?_, e3.now⟩
    have hi := (List.getElem?_eq_some_iff.1 hp).1
    have hc := e2 j u hu
    have hj := (List.getElem?_eq_some_iff.1 hc).1
    have := congrArg (fun z : List Value => z[sz * i + j]?) htk
    simp only [List.getElem?_take, if_pos (show sz * i + j < l.length * sz by omega), Array.getElem?_toList] at this
    rw [Nat.zero_add]
    simp only [World.cell?, hh]
    exact this.trans hc
theorem GRow.fr {S : Nat → Prop} {w' : World} (h : GRow sz R K t w base v l) (f : Fr S w w') (hS : ∀ k, k < w.heap.size → S k → K k) (hv : ∀ k, v.ownBlock = some k → ¬ S k) : GRow sz R K t w' base v l := by
  obtain ⟨cs, h1, h2⟩ := h
  refine ⟨cs, Go.Proofs.YthamenngccaijaaGreatDoor.ownsRow_fr h1 f hv, fun i p hp => ?_⟩
  obtain ⟨us, e1, e2, e3⟩ := h2 i p hp
  exact ⟨us, e1, e2, e3.step f (fun k hk hs => .inr (hS k hk hs)) (fun k hk => .inl hk)⟩
theorem GRow.old {w' : World} (h : GRow sz R K t w base v l) (f : Fr (fun _ => False) w w') : GRow sz R K t w' base v l := h.fr f (fun _ _ h => h.elim) (fun _ _ h => h)
theorem GRow.kept (h : GRow sz R K t w base v l) (hs : 0 < sz) (K' : Nat → Prop) (hK : ∀ k, K' k → K k ∧ k < base) : Kept (fun W => LAt sz R W v l) K' w := fun W f =>
  (h.fr f (fun k _ hk => (hK k hk).1) (fun k hk hs => by have := (h.keep k hk).1; have := (hK k hs).2; omega)).at hs
theorem GRow.add {P : Program} {s : TypeId} {z : Value} {bytes : Nat} (hu0 : P.underlying s = some (.slice t)) (hinf : Info P t z sz bytes) (hzs : z.cells.size = sz) (hs0 : 0 < sz) (hby : bytes ≤ 64) {wa : World} (h : GRow sz R K t w base v l) (hb : base ≤ w.heap.size) (F1 : Fr (fun _ => False) w wa) (g : Nat) (us : List Value) (hus : us.length = sz) (BX : Blk wa g t us.toArray) (h1 : ∀ u ∈ us, u.oneCell' = true) (x : α) (hk : Kept (fun W => R W us x) (fun k => v.ownBlock = some k ∨ K k) w) (hn : l.length ≤ 109951162777) :
    ∃ a c w', (Builtin.append_ #[s, s] s #[v, .slice (some ⟨g, 0, none⟩) 1 1]).run P wa = .ok (.slice a (l.length + 1) c) w' ∧ GRow sz R K t w' base (.slice a (l.length + 1) c) (l ++ [x]) ∧ Fr (fun k => v.ownBlock = some k) w w' ∧ (∀ k, (Value.slice a (l.length + 1) c).ownBlock = some k → v.ownBlock = some k ∨ w.heap.size ≤ k) := by
  obtain ⟨cs, g1, g2⟩ := h
  have hcl : cs.length = l.length * sz := g1.1
  obtain ⟨a, c, w', hrun, h4, F2, h5⟩ := add_gen hu0 hinf hzs hs0 hby g1 hb F1 g us hus BX h1 hn
  have hst : ∀ (us : List Value) (y : α), Kept (fun W => R W us y) (fun k => v.ownBlock = some k ∨ K k) w → Kept (fun W => R W us y) (fun k => (Value.slice a (l.length + 1) c).ownBlock = some k ∨ K k) w' := fun us y hq =>
    hq.step F2 (fun _ _ h => .inl h) (fun k hk => by
      rcases hk with h | h
      · rcases h5 k h with h | h
        · exact .inl (.inl h)
        · exact .inr h
      · exact .inl (.inr h))
  refine ⟨a, c, w', hrun, ⟨cs ++ us, by rw [List.length_append]; exact h4, fun i y hy => ?_⟩, F2, h5⟩
  rcases Nat.lt_or_ge i l.length with hi | hi
  · rw [List.getElem?_append_left hi] at hy
    obtain ⟨us', e1, e2, e3⟩ := g2 i y hy
    refine ⟨us', e1, fun j u hu => ?_, hst _ _ e3⟩
    have := e2 j u hu
    rw [List.getElem?_append_left (List.getElem?_eq_some_iff.1 this).1]
    exact this
  · obtain rfl : i = l.length := by
      have := (List.getElem?_eq_some_iff.1 hy).1
      simp at this
      omega
    rw [List.getElem?_append_right (Nat.le_refl _)] at hy
    simp at hy
    subst hy
    refine ⟨us, hus, fun j u hu => ?_, hst _ _ hk⟩
    rw [Nat.mul_comm, List.getElem?_append_right (by rw [hcl]; exact Nat.le_add_right _ _), hcl, Nat.add_sub_cancel_left]
    exact hu
end
def RPart (W : World) (cs : List Value) (p : Part) : Prop := ∃ x y, cs = [x, y] ∧ Ints W x p.o ∧ Bytes W y p.b
def RStep (W : World) (cs : List Value) (r : List Part) : Prop := ∃ u, cs = [u] ∧ Attrs W u r
theorem LAt.attrs {w : World} {v : Value} {l : List Part} (h : LAt 2 RPart w v l) : Attrs w v l := by
  obtain ⟨a, cap, rfl, h1, h2, h3⟩ := h
  refine ⟨a, cap, rfl, h1, h2, fun h0 => ?_⟩
  obtain ⟨b, o, rfl, hy⟩ := h3 h0
  refine ⟨b, o, rfl, fun i p hp => ?_⟩
  obtain ⟨cs, -, e2, x, y, rfl, g1, g2⟩ := hy i p hp
  exact ⟨x, y, e2 0 x rfl, e2 1 y rfl, g1, g2⟩
theorem LAt.name {w : World} {v : Value} {n : List (List Part)} (h : LAt 1 RStep w v n) : NameAt w v n := by
  obtain ⟨a, cap, rfl, h1, h2, h3⟩ := h
  refine ⟨a, cap, rfl, h1, h2, fun h0 => ?_⟩
  obtain ⟨b, o, rfl, hy⟩ := h3 h0
  refine ⟨b, o, rfl, fun i r hr => ?_⟩
  obtain ⟨cs, -, e2, u, rfl, g1⟩ := hy i r hr
  exact ⟨u, by have := e2 0 u rfl; rw [Nat.one_mul] at this; exact this, g1⟩
theorem Kept.imp {A B : World → Prop} {K : Nat → Prop} {w : World} (h : Kept A K w) (f : ∀ W, A W → B W) : Kept B K w := fun W g => f W (h W g)
theorem Kept.both {A B : World → Prop} {K : Nat → Prop} {w : World} (h : Kept A K w) (g : Kept B K w) : Kept (fun W => A W ∧ B W) K w := fun W f => ⟨h W f, g W f⟩
end Go.Q

namespace Go.Q
open Go Go.RowKit
end Go.Q

namespace Go.Q
open Go Go.RowKit
theorem cmpS_swap : ∀ a b : List UInt8, cmpS a b = - cmpS b a
  | [], [] => rfl
  | [], _ :: _ => rfl
  | _ :: _, [] => rfl
  | x :: a, y :: b => by
    simp only [cmpS]
    by_cases h : x = y
    · rw [if_pos h, if_pos h.symm]
      exact cmpS_swap a b
    · rw [if_neg h, if_neg (fun e : y = x => h e.symm)]
      have hne : x.toNat ≠ y.toNat := fun e => h (UInt8.toNat_inj.1 e)
      by_cases h1 : x.toNat < y.toNat
      · rw [if_pos h1, if_neg (by omega)]
      · rw [if_neg h1, if_pos (by omega)]
        rfl
def Upward (ls : List (List UInt8)) : Prop := ∀ (j : Nat) (x y : List UInt8), ls[j]? = some x → ls[j + 1]? = some y → 0 ≤ cmpS y x
theorem steps_in {p : Part} {t : List Part} {last : Option (List UInt8)} {ws : List (List UInt8)} (h : stepsS last (p :: t) = some ws) : ∃ x ws', attrS p.o p.b = some x ∧ stepsS (some x) t = some ws' ∧ ws = x :: ws' ∧ ∀ y, last = some y → cmpS y x < 0 := by
  simp only [stepsS] at h
  cases hx : attrS p.o p.b with
  | none => rw [hx] at h; cases h
  | some x =>
    rw [hx] at h
    simp only at h
    have key : (stepsS (some x) t).map (x :: ·) = some ws ∧ ∀ y, last = some y → cmpS y x < 0 := by
      cases last with
      | none =>
        rw [if_neg (by simp)] at h
        exact ⟨h, fun y e => by cases e⟩
      | some y =>
        by_cases hlt : 0 ≤ cmpS y x
        · rw [if_pos (by simpa using hlt)] at h; cases h
        · rw [if_neg (by simpa using hlt)] at h
          exact ⟨h, fun z e => by cases e; omega⟩
    obtain ⟨h, hlt⟩ := key
    cases hs : stepsS (some x) t with
    | none => rw [hs] at h; cases h
    | some ws' =>
      rw [hs] at h
      simp only [Option.map_some, Option.some.injEq] at h
      exact ⟨x, ws', rfl, hs, h.symm, hlt⟩
theorem steps_up : ∀ (l : List Part) (last : Option (List UInt8)) (ws : List (List UInt8)), stepsS last l = some ws → (∀ y x, last = some y → ws[0]? = some x → cmpS y x < 0) ∧ Upward ws ∧ ws.length = l.length
  | [], last, ws, h => by
    simp only [stepsS, Option.some.injEq] at h
    subst h
    exact ⟨fun _ _ _ h => by simp at h, fun _ _ _ h => by simp at h, rfl⟩
  | p :: t, last, ws, h => by
    obtain ⟨x, ws', -, hs, rfl, hlt⟩ := steps_in h
    obtain ⟨h1, h2, h3⟩ := steps_up t (some x) ws' hs
    refine ⟨fun y z hl hz => ?_, fun j a b ha hb => ?_, by rw [List.length_cons, List.length_cons, h3]⟩
    · simp only [List.getElem?_cons_zero, Option.some.injEq] at hz
      subst hz
      exact hlt y hl
    · cases j with
      | zero =>
        simp only [List.getElem?_cons_zero, Option.some.injEq, Nat.zero_add, List.getElem?_cons_succ] at ha hb
        subst ha
        have := h1 x b rfl hb
        have := cmpS_swap b x
        omega
      | succ j =>
        simp only [List.getElem?_cons_succ] at ha hb
        exact h2 j a b ha hb
theorem rdn_up {l : List Part} {ws : List (List UInt8)} (h : rdnS l = some ws) : Upward ws ∧ ws.length ≤ 16 := by
  unfold rdnS at h
  split at h
  · cases h
  rename_i hn
  obtain ⟨-, h2, h3⟩ := steps_up l none ws h
  exact ⟨h2, by omega⟩
def rdnWhole (ws : List (List UInt8)) : List UInt8 := wrapS (tagOf 17) ws.flatten
theorem mem_flat {ws : List (List UInt8)} {x : List UInt8} (h : x ∈ ws) : x.length ≤ ws.flatten.length := by
  obtain ⟨i, hi⟩ := List.mem_iff_getElem?.1 h
  have h1 := flat_take hi
  have h2 := flat_le ws (i + 1)
  rw [h1, List.length_append] at h2
  omega
end Go.Q
namespace Go.Proofs.YthamenngccaijaaGreatDoor
open Go Go.RowKit Go.Q
set_option linter.unusedSimpArgs false
set_option maxRecDepth 20000 in
set_option maxHeartbeats 2000000 in
theorem insertion_up (v : Value) (ls : List (List UInt8)) (w : World) (h : Parts w v ls) (hU : Upward ls) (hl : ∀ l ∈ ls, l.length ≤ 1099511627776) (hn : ls.length ≤ 1000) :
    Calls Tryz.prog 238 #[v, .int .i64 0, .int .i64 ls.length, .func (.func 146) #[] #[]] w fun e w' => e = .returned (.tuple #[]) ∧ Fr (fun _ => False) w w' := by
  obtain ⟨a, cap, rfl, hx⟩ := h.form
  have HX := Lib.hid hx
  have HU := Lib.hid hU
  have HL := Lib.hid hl
  clear h hx hU hl
  go_enter Tryz.func238, Tryz.ntmps238
  go_wp2_with fail
  go_loopg [8] ls.length (fun g ii wr => ∃ q : Nat, g = ls.length - q ∧ q ≤ 1000 ∧ ii = .int .i64 ((q : Int) + 1) ∧ Fr (fun _ => False) w wr)
  case atStart => exact ⟨0, rfl, by omega, rfl, Fr.refl _⟩
  case round =>
    obtain ⟨q, hg, hq, rfl, F⟩ := hrel
    have HG := Lib.hid hg
    have HF := Lib.hid F
    clear hg F
    by_cases hql : q + 1 < ls.length
    · have q1 : (q : Int) + 1 < (ls.length : Int) := by omega
      obtain ⟨b, off, rfl, hy⟩ := HX.out (by omega)
      obtain ⟨x, hx⟩ : ∃ x, ls[q]? = some x := ⟨_, List.getElem?_eq_getElem (by omega)⟩
      obtain ⟨y, hyy⟩ : ∃ y, ls[q + 1]? = some y := ⟨_, List.getElem?_eq_getElem hql⟩
      obtain ⟨px, cx, e1, hbx⟩ := hy q x hx
      obtain ⟨py, cy, e2, hby⟩ := hy (q + 1) y hyy
      have hcmp := HU.out q x y hx hyy
      obtain ⟨k, hk⟩ : ∃ k, k = cmpS y x := ⟨_, rfl⟩
      rw [← hk] at hcmp
      have HK := Lib.hid hk
      have hlx := HL.out x (List.mem_of_getElem? hx)
      have hly := HL.out y (List.mem_of_getElem? hyy)
      have HE := Lib.hid (fun w' (f : Fr (fun _ => False) w w') => And.intro (f.cell e1 (fun h => h)) (f.cell e2 (fun h => h)))
      have HC := Lib.hid (fun w' (f : Fr (fun _ => False) w w') => compare_any _ _ y x w' (hby.old f) (hbx.old f) hly hlx)
      rw [← HK.out] at HC
      have c1 : ¬ k < 0 := by omega
      have c2 : (0 : Int) < (q : Int) + 1 := by omega
      have c3 : (0 : Int) ≤ (q : Int) := by omega
      have c4 : (q : Int) < (ls.length : Int) := by omega
      clear hy hx hyy e1 e2 hbx hby hk hlx hly
      go_wp2_with fail
      go_loopg [9] 1 (fun g jj wx => g = 1 ∧ jj = .int .i64 ((q : Int) + 1) ∧ wx = wr)
      case atStart => exact ⟨rfl, rfl, rfl⟩
      case round =>
        obtain ⟨hg1, rfl, rfl⟩ := hrel
        clear hg1
        have HFD := Lib.hid HF.out.drew
        have hw1 : IntKind.i64.wrap ((q : Int) + 1 - 1) = (q : Int) := by simp [IntKind.wrap, IntKind.signed, IntKind.bits]; omega
        have hw2 : IntKind.i64.wrap (q : Int) = (q : Int) := by simp [IntKind.wrap, IntKind.signed, IntKind.bits]; omega
        have c6 : (0 : Int) ≤ (q : Int) + 1 := by omega
        have c7 : ((q : Int) + 1).toNat = q + 1 := by omega
        have c1' : decide (k < 0) = false := decide_eq_false (by omega)
        have c2' : decide ((0 : Int) < (q : Int) + 1) = true := decide_eq_true (by omega)
        have c5 : q < ls.length := by omega
        go_upto_region 4 with fail
        go_region_held3 (fun w' => w'.cell? ⟨b, off + q, none⟩ = some (.slice px x.length cx) ∧ w'.cell? ⟨b, off + (q + 1), none⟩ = some (.slice py y.length cy)) (first | exact HE.out _ HFD.out | exact HE.out _ (HFD.out.trans F2)) (first
          | (go_at_call 146; refine (HC.out _ HFD.out).mono ?_; rintro e w2 ⟨rfl, F2⟩))
        all_goals
          have HF2 := Lib.hid (HFD.out.trans F2)
          clear F2 hw1 hw2 c7 c1' c2' HFD
          go_wp2_with fail
          go_roundg (ls.length - (q + 1))
          case measure => rw [HG.out]; omega
          case rel => exact ⟨q + 1, rfl, by omega, by go_num, HF2.out⟩
    · have q1 : ¬ (q : Int) + 1 < (ls.length : Int) := by omega
      go_wp2_with fail
      go_end0
      exact ⟨rfl, HF.out⟩
set_option maxRecDepth 20000 in
set_option maxHeartbeats 2000000 in
theorem stable_up (v : Value) (ls : List (List UInt8)) (w : World) (h : Parts w v ls) (hU : Upward ls) (hl : ∀ l ∈ ls, l.length ≤ 1099511627776) (hn : ls.length ≤ 19) :
    Calls Tryz.prog 189 #[v, .int .i64 ls.length, .func (.func 146) #[] #[]] w fun e w' => e = .returned (.tuple #[]) ∧ Fr (fun _ => False) w w' := by
  have HI := Lib.hid (insertion_up v ls w h hU hl (by omega))
  obtain ⟨a, cap, rfl, -⟩ := h.form
  have q1 : ¬ (20 : Int) ≤ (ls.length : Int) := by omega
  have q2 : ¬ (20 : Int) < (ls.length : Int) := by omega
  clear h hU hl
  go_enter Tryz.func189, Tryz.ntmps189
  go_wp2_with fail
  go_loopg [7, 8] 1 (fun g aa bb wr => g = 1 ∧ aa = .int .i64 0 ∧ bb = .int .i64 20 ∧ wr = w)
  case atStart => exact ⟨rfl, rfl, rfl, rfl⟩
  case round =>
    obtain ⟨hg, rfl, rfl, rfl⟩ := hrel
    clear hg
    go_wp2_with fail
    refine HI.out.mono ?_
    rintro e w1 ⟨rfl, F1⟩
    have HF1 := Lib.hid F1
    clear F1
    go_wp2_with fail
    go_loopg [6] 1 (fun g bs wr => g = 1 ∧ bs = .int .i64 20 ∧ wr = w1)
    case atStart => exact ⟨rfl, rfl, rfl⟩
    case round =>
      obtain ⟨hg, rfl, rfl⟩ := hrel
      clear hg
      go_wp2_with fail
      go_end0
      exact ⟨rfl, HF1.out⟩
set_option maxRecDepth 20000 in
theorem sortStable_up (v : Value) (ls : List (List UInt8)) (w : World) (h : Parts w v ls) (hU : Upward ls) (hl : ∀ l ∈ ls, l.length ≤ 1099511627776) (hn : ls.length ≤ 19) :
    Calls Tryz.prog 148 #[v, .func (.func 146) #[] #[]] w fun e w' => e = .returned (.tuple #[]) ∧ Fr (fun _ => False) w w' := by
  have HI := Lib.hid (stable_up v ls w h hU hl hn)
  obtain ⟨a, cap, rfl, -⟩ := h.form
  clear h hU hl
  go_enter Tryz.func148, Tryz.ntmps148
  go_wp2_with fail
  refine HI.out.mono ?_
  rintro e w1 ⟨rfl, F1⟩
  go_wp2_with fail
  go_end0
  exact ⟨rfl, F1⟩
theorem parts_one {w : World} {ls : List (List UInt8)} {vs : List Value} (h3 : ∀ (i : Nat) (u : Value) (l : List UInt8), vs[i]? = some u → ls[i]? = some l → Bytes w u l) (h2 : vs.length = ls.length) : ∀ u ∈ vs, u.oneCell' = true := fun u hu => by
  obtain ⟨i, hi⟩ := List.mem_iff_getElem?.1 hu
  have hil : i < ls.length := by have := (List.getElem?_eq_some_iff.1 hi).1; omega
  obtain ⟨a, c, rfl, -⟩ := (h3 i u _ hi (List.getElem?_eq_getElem hil)).form
  rfl
set_option maxRecDepth 20000 in
set_option maxHeartbeats 1000000 in
theorem cloneParts_any (v : Value) (ls : List (List UInt8)) (w : World) (h : Parts w v ls) (hl : ls.length ≤ 100000000000) :
    Calls Tryz.prog 147 #[v] w fun e w' => (∃ u, e = .returned u ∧ Parts w' u ls) ∧ Fr (fun _ => False) w w' := by
  obtain ⟨vs, g1, g2, g3⟩ := h
  have h1 := parts_one g3 g2
  obtain ⟨a, cap, rfl, hc, hm, hx⟩ := g1
  have g1 : Vals w (.slice a vs.length cap) vs := ⟨a, cap, rfl, hc, hm, hx⟩
  have qT : ∀ (w : World) (a : Option Addr) (n c n' c' : Nat), (binOp .eql 136 (.slice a n c) (.slice none n' c')).run Tryz.prog w = .ok (.bool a.isNone) w := fun w a n c n' c' => Lib.run_eql_slice_nil w _ _ a n c n' c' Tryz.underlying136
  cases a with
  | none =>
    have h0 : vs = [] := by
      cases vs with
      | nil => rfl
      | cons u s =>
        obtain ⟨b, o, e, -⟩ := hx (by simp)
        cases e
    subst h0
    have hls : ls = [] := List.length_eq_zero_iff.1 g2.symm
    subst hls
    clear hx g1 g2 g3 h1
    go_enter Tryz.func147, Tryz.ntmps147
    go_wp2_with fail
    go_ret
    exact ⟨⟨_, rfl, [], Vals.nil w, rfl, fun i u l hu => by simp at hu⟩, Fr.refl _⟩
  | some ad =>
    have B0 := Blk.new w 23 #[]
    have F0 : Fr (fun _ => False) w (w.alloc (.cells #[] 23)) := (Fr.refl w).alloc _
    obtain ⟨a', c', w', hrun, hown, F1, -⟩ := append_vals Tryz.underlying136 info23 rfl (by decide) (own_block B0 0 (Nat.le_refl _) (Nat.zero_le _) w.heap.size (Nat.le_refl _)) F0.size (g1.old F0) h1 (by omega)
    rw [Nat.zero_add] at hrun hown
    have hF := F0.trans' F1 (fun i hi e => by simp [Value.ownBlock] at e; omega)
    have HF := Lib.hid hF
    have HP := Lib.hid (show Parts w' (.slice a' vs.length c') ls from ⟨vs, (Vals.of_own hown).1, g2, fun i u l hu hl => (g3 i u l hu hl).old hF⟩)
    have HRUN := Lib.hid hrun
    clear hrun hown F1 B0 F0 g1 g2 g3 h1 hx hF
    go_enter Tryz.func147, Tryz.ntmps147
    go_wp2_with (at_builtin; refine wpList_append_run (by rfl) (.tmp 5) (.tmp 6) 136 (by rfl) _ w' (by exact HRUN.out) ?_)
    go_ret
    exact ⟨⟨_, rfl, HP.out⟩, HF.out⟩
set_option maxRecDepth 20000 in
set_option maxHeartbeats 1000000 in
theorem setOf_up (v : Value) (ls : List (List UInt8)) (w : World) (h : Parts w v ls) (hU : Upward ls) (hf : ls.flatten.length ≤ 16777216) (hn : ls.length ≤ 19) (hl : ∀ l ∈ ls, l.length ≤ 1099511627776) :
    Calls Tryz.prog 105 #[v] w fun e w' => (∃ a c, e = .returned (.tuple #[.slice a (wrapS (tagOf 17) ls.flatten).length c, .int .i64 0]) ∧ w'.ownsRow w.heap.size 5 1 (.slice a (wrapS (tagOf 17) ls.flatten).length c) (wrapS (tagOf 17) ls.flatten).length (Lib.byteCells (wrapS (tagOf 17) ls.flatten))) ∧ Fr (fun _ => False) w w' := by
  have HC := Lib.hid (cloneParts_any v ls w h (by omega))
  obtain ⟨a, cap, rfl, -⟩ := h.form
  have HU := Lib.hid hU
  have HL := Lib.hid hl
  obtain ⟨T, hT⟩ : ∃ T, T = tagOf 17 := ⟨_, rfl⟩
  have HTG := Lib.hid (show tagGood T from by rw [hT]; exact ⟨by decide, by decide⟩)
  have HT := Lib.hid hT
  rw [← hT]
  clear h hU hl hT
  go_enter Tryz.func105, Tryz.ntmps105
  go_wp2_with fail
  refine HC.out.mono ?_
  rintro e w1 ⟨⟨u, rfl, hp⟩, F1⟩
  obtain ⟨a1, c1, rfl, -⟩ := hp.form
  have HS := Lib.hid (sortStable_up _ ls w1 hp HU.out HL.out hn)
  have HP := Lib.hid hp
  have HF1 := Lib.hid F1
  clear hp F1 HC
  go_wp2_with fail
  refine HS.out.mono ?_
  rintro e w2 ⟨rfl, F2⟩
  have HP2 := Lib.hid (HP.out.old F2)
  have HF2 := Lib.hid (HF1.out.trans F2)
  clear F2 HS HP HF1
  go_wp2_with fail
  refine (headOf_any 17 _).mono ?_
  rintro e w3 ⟨rfl, F3⟩
  rw [← HT.out]
  have HW := Lib.hid (wrap_any T HTG.out _ ls w3 (HP2.out.old F3) hf (by omega))
  have HF3 := Lib.hid (HF2.out.trans F3)
  clear F3 HP2 HF2
  go_wp2_with fail
  refine HW.out.mono ?_
  rintro e w4 ⟨v4, rfl, hown, F4⟩
  obtain ⟨a4, m4, c4, rfl, rfl⟩ := own_shape hown
  have HO := Lib.hid (own_le hown HF3.out.size)
  have HF4 := Lib.hid (HF3.out.trans F4)
  clear hown F4 HW
  go_wp2_with fail
  exact bodyPost_ret (v := .tuple #[.slice a4 (wrapS T ls.flatten).length c4, .int .i64 0]) (by simp [results, Tryz.results105, go_sem]) rfl ⟨⟨a4, c4, rfl, HO.out⟩, HF4.out⟩
def writeRdnOut (w w' : World) (r : Option (List (List UInt8))) (e : Ending) : Prop :=
  match r with
  | none => e = .returned (.tuple #[.slice none 0 0, .int .i64 1])
  | some ws => ∃ a c, e = .returned (.tuple #[.slice a (rdnWhole ws).length c, .int .i64 0]) ∧ w'.ownsRow w.heap.size 5 1 (.slice a (rdnWhole ws).length c) (rdnWhole ws).length (Lib.byteCells (rdnWhole ws))
set_option maxRecDepth 20000 in
set_option maxHeartbeats 1000000 in
theorem writeRdn_any (v : Value) (l : List Part) (w : World) (h : Attrs w v l) (hf : fewB l) (hs : ∀ ws, rdnS l = some ws → ws.flatten.length ≤ 16777216) :
    Calls Tryz.prog 57 #[v] w fun e w' => writeRdnOut w w' (rdnS l) e ∧ Fr (fun _ => False) w w' := by
  have HW := Lib.hid (wholesRdn_any v l w h hf)
  have HS := Lib.hid hs
  obtain ⟨a, cap, rfl, -⟩ := h
  clear hs
  go_enter Tryz.func57, Tryz.ntmps57
  go_wp2_with fail
  refine HW.out.mono ?_
  rintro e w1 ⟨⟨u, rfl, hr⟩, F1⟩
  have HF1 := Lib.hid F1
  clear F1 HW
  cases hd : rdnS l with
  | none =>
    clear hr
    have HD := Lib.hid hd
    clear hd
    simp only [Option.isSome_none]
    go_wp2_with fail
    refine bodyPost_ret (v := .tuple #[.slice none 0 0, .int .i64 1]) (by simp [results, Tryz.results57, go_sem]) rfl ⟨?_, HF1.out⟩
    rw [HD.out]
    rfl
  | some ws =>
    have hp := (hr ws hd).parts
    obtain ⟨hu, hn⟩ := rdn_up hd
    have hsz := HS.out ws hd
    obtain ⟨a1, c1, rfl, -⟩ := hp.form
    have HSO := Lib.hid (setOf_up _ ws w1 hp hu hsz (by omega) (fun l hl => by have := mem_flat hl; omega))
    obtain ⟨R, hR⟩ : ∃ R, R = rdnWhole ws := ⟨_, rfl⟩
    have HR := Lib.hid hR
    rw [show wrapS (tagOf 17) ws.flatten = R from hR.symm] at HSO
    simp only [Option.isSome_some]
    have HD := Lib.hid hd
    clear hr hp hu hsz hd hR
    go_wp2_with fail
    refine HSO.out.mono ?_
    rintro e w2 ⟨⟨a2, c2, rfl, hown⟩, F2⟩
    have HO := Lib.hid (own_le hown HF1.out.size)
    have HF2 := Lib.hid (HF1.out.trans F2)
    clear hown F2 HSO
    go_wp2_with fail
    refine bodyPost_ret (v := .tuple #[.slice a2 R.length c2, .int .i64 0]) (by simp [results, Tryz.results57, go_sem]) rfl ⟨?_, HF2.out⟩
    rw [HD.out]
    unfold writeRdnOut
    simp only
    rw [← HR.out]
    exact ⟨a2, c2, rfl, HO.out⟩
end Go.Proofs.YthamenngccaijaaGreatDoor

namespace Go.Proofs.YthamenngccaijaaGreatDoor
open Go Go.RowKit Go.Q
set_option linter.unusedSimpArgs false
theorem info158 : (Tryz.prog.info? 158).map (fun i => (i.zero, i.size, i.bytes)) = some (some (.agg #[.int .i64 0, .int .i64 0, .bool false, .bool false, .slice none 0 0]), 5, 56) := by kernel_rfl
theorem setAt4 {w : World} {z : Nat} {t : TypeId} {a0 a1 a2 a3 a4 a5 a6 : Value} (B : Blk w z t #[a0, a1, a2, a3, a4, a5, a6]) (v : Value) : Blk (w.setCell ⟨z, 4, none⟩ v) z t #[a0, a1, a2, a3, v, a5, a6] ∧ Fr (fun k => k = z) w (w.setCell ⟨z, 4, none⟩ v) :=
  ⟨by have := B.set 4 v; simpa using this, Fr.setCell (S := fun k => k = z) (p := ⟨z, 4, none⟩) (Fr.refl w) (fun _ => rfl) _⟩
set_option maxRecDepth 20000 in
theorem off_no (sb : Nat) (w : World) (h : w.cell? ⟨sb, 6, none⟩ = some (.int .i64 0)) :
    Calls Tryz.prog 106 #[pt sb] w fun e w' => e = .returned (.bool false) ∧ w = w' := by
  go_enter Tryz.func106, Tryz.ntmps106
  go_wp2_with fail
  go_ret
  exact ⟨rfl, rfl⟩
set_option maxRecDepth 20000 in
set_option maxHeartbeats 1000000 in
theorem frameAdd_any (sb : Nat) (t : TypeId) (a0 a1 a2 a3 a5 a6 bv u : Value) (base n : Nat) (xs ys : List UInt8) (w : World) (B : Blk w sb t #[a0, a1, a2, a3, bv, a5, a6]) (ho : w.ownsRow base 5 1 bv n (Lib.byteCells xs)) (hu : Bytes w u ys) (hb : base ≤ w.heap.size) (hap : ∀ k, bv.ownBlock = some k → k ≠ sb) (hn : n + ys.length ≤ 100000000) :
    Calls Tryz.prog 107 #[pt sb, u] w fun e w' => e = .returned (.tuple #[]) ∧ ∃ v, Blk w' sb t #[a0, a1, a2, a3, v, a5, a6] ∧ w'.ownsRow base 5 1 v (n + ys.length) (Lib.byteCells (xs ++ ys)) ∧ (∀ k, v.ownBlock = some k → bv.ownBlock = some k ∨ w.heap.size ≤ k) ∧ Fr (fun k => k = sb ∨ bv.ownBlock = some k) w w' := by
  obtain ⟨ab, mb, cb, rfl, rfl⟩ := own_shape ho
  obtain ⟨au, cu, rfl, -⟩ := hu.form
  have e4 := B.cell 4
  simp at e4
  obtain ⟨v, w1, hrun, ho1, F1, hv⟩ := append_bytes ho au ys.length cu ys hu (by omega) hb
  have B1 := B.fr F1 (fun e => hap sb e rfl)
  have SB := B1.cell
  have ZB := B1.frozen
  have HRUN := Lib.hid hrun
  have HO := Lib.hid ho1
  have HF1 := Lib.hid F1
  have HV := Lib.hid hv
  have HB1 := Lib.hid B1
  have hkp := (Vals.of_own ho).2
  have HKP := Lib.hid hkp
  have hlt := B.lt
  obtain ⟨a1, m1, c1, rfl, rfl⟩ := own_shape ho1
  clear hrun ho1 F1 hv hu ho B B1 hkp
  go_enter Tryz.func107, Tryz.ntmps107
  go_wp2_with (at_builtin; refine wpList_append_run (by rfl) (.tmp 8) (.tmp 9) 23 (by rfl) _ w1 (by exact HRUN.out) ?_)
  obtain ⟨B2, F2⟩ := setAt4 HB1.out (.slice a1 (mb + ys.length) c1)
  have hne : ∀ k, (Value.slice a1 (mb + ys.length) c1).ownBlock = some k → k ≠ sb := fun k hk e => by
    subst e
    rcases HV.out with h | h
    · rw [h] at hk
      exact hap k hk rfl
    · rw [h] at hk
      simp only [Option.some.injEq] at hk
      omega
  go_end0
  exact ⟨rfl, _, B2, ownsRow_fr HO.out F2 hne, fun k hk => by
    rcases HV.out with h | h
    · exact .inl (h ▸ hk)
    · rw [h] at hk
      simp only [Option.some.injEq] at hk
      exact .inr (by omega), (HF1.out.mono (fun _ _ h => .inr h)).trans (F2.mono (fun _ _ h => .inl h))⟩
structure Frm where
  tag : Tag
  set : Bool
  b : List UInt8
def frmCells (f : Frm) (bv : Value) : List Value := [.int .i64 f.tag.cls, .int .i64 f.tag.num, .bool f.tag.made, .bool f.set, bv]
def SheetAt (w : World) (base : Nat) (foot : Nat → Prop) (sb : Nat) (cur : Frm) (ar : List Frm) : Prop :=
  ∃ (bv av : Value) (bvs : List Value), Blk w sb 161 #[.int .i64 cur.tag.cls, .int .i64 cur.tag.num, .bool cur.tag.made, .bool cur.set, bv, av, .int .i64 0] ∧ foot sb ∧ w.ownsRow base 5 1 bv cur.b.length (Lib.byteCells cur.b) ∧
    bvs.length = ar.length ∧ w.ownsRow base 158 5 av ar.length (List.zipWith frmCells ar bvs).flatten ∧ (∀ (i : Nat) (b : Value) (f : Frm), bvs[i]? = some b → ar[i]? = some f → w.ownsRow base 5 1 b f.b.length (Lib.byteCells f.b)) ∧
    (∀ k, bv.ownBlock = some k → k ≠ sb ∧ foot k) ∧ (∀ k, av.ownBlock = some k → k ≠ sb ∧ bv.ownBlock ≠ some k ∧ foot k) ∧ (∀ b ∈ bvs, ∀ k, b.ownBlock = some k → k ≠ sb ∧ bv.ownBlock ≠ some k ∧ av.ownBlock ≠ some k ∧ foot k) ∧ bvs.Pairwise (fun b b' => ∀ k, b.ownBlock = some k → b'.ownBlock ≠ some k)
theorem SheetAt.fr {w w' : World} {base sb : Nat} {foot S : Nat → Prop} {cur : Frm} {ar : List Frm} (h : SheetAt w base foot sb cur ar) (f : Fr S w w') (hS : ∀ k, foot k → ¬ S k) : SheetAt w' base foot sb cur ar := by
  obtain ⟨bv, av, bvs, B, h0, h1, h2, h3, h4, h5, h6, h7, h8⟩ := h
  exact ⟨bv, av, bvs, B.fr f (hS sb h0), h0, ownsRow_fr h1 f (fun k hk => hS k (h5 k hk).2), h2, ownsRow_fr h3 f (fun k hk => hS k (h6 k hk).2.2), fun i b g hb hg => ownsRow_fr (h4 i b g hb hg) f (fun k hk => hS k (h7 b (List.mem_of_getElem? hb) k hk).2.2.2), h5, h6, h7, h8⟩
theorem SheetAt.old {w w' : World} {base sb : Nat} {foot : Nat → Prop} {cur : Frm} {ar : List Frm} (h : SheetAt w base foot sb cur ar) (f : Fr (fun _ => False) w w') : SheetAt w' base foot sb cur ar := h.fr f (fun _ _ h => h)
theorem SheetAt.lt {w : World} {base sb : Nat} {foot : Nat → Prop} {cur : Frm} {ar : List Frm} (h : SheetAt w base foot sb cur ar) : sb < w.heap.size := by
  obtain ⟨bv, av, bvs, B, -⟩ := h
  exact B.lt
theorem sheetNew_any (w : World) :
    Calls Tryz.prog 54 #[] w fun e w' => e = .returned (pt w.heap.size) ∧ SheetAt w' w.heap.size (fun k => k = w.heap.size) w.heap.size ⟨⟨0, 0, false⟩, false, []⟩ [] ∧ Fr (fun _ => False) w w' := by
  go_enter Tryz.func54, Tryz.ntmps54
  go_wp2_with fail
  go_ret
  refine ⟨rfl, ⟨.slice none 0 0, .slice none 0 0, [], Blk.new w _ _, rfl, ⟨rfl, .inl ⟨rfl, rfl⟩⟩, rfl, ⟨rfl, .inl ⟨rfl, rfl⟩⟩, (fun i b f h => by simp at h), (fun k h => by cases h), (fun k h => by cases h), (fun b h => by simp at h), List.Pairwise.nil⟩, (Fr.refl w).alloc _⟩
def Frm.more (f : Frm) (l : List UInt8) : Frm := ⟨f.tag, f.set, f.b ++ l⟩
theorem sheetAdd_any (sb base : Nat) (foot : Nat → Prop) (cur : Frm) (ar : List Frm) (u : Value) (ys : List UInt8) (w : World) (h : SheetAt w base foot sb cur ar) (hu : Bytes w u ys) (hb : base ≤ w.heap.size) (hn : cur.b.length + ys.length ≤ 100000000) :
    Calls Tryz.prog 107 #[pt sb, u] w fun e w' => e = .returned (.tuple #[]) ∧ SheetAt w' base (fun k => foot k ∨ w.heap.size ≤ k) sb (cur.more ys) ar ∧ Fr foot w w' := by
  have hlt := h.lt
  obtain ⟨bv, av, bvs, B, h0, h1, h2, h3, h4, h5, h6, h7, h8⟩ := h
  have hlk := (Vals.of_own h1).2
  refine (frameAdd_any sb _ _ _ _ _ _ _ bv u base cur.b.length cur.b ys w B h1 hu hb (fun k hk => (h5 k hk).1) hn).mono fun e w' ⟨he, v, B2, ho, hv, F⟩ => ⟨he, ⟨v, av, bvs, B2, .inl h0, ?_, h2, ?_, fun i b g hg1 hg2 => ?_, fun k hk => ?_, fun k hk => ?_, fun b hbm k hk => ?_, h8⟩, F.mono (fun k _ hk => ?_)⟩
  · show w'.ownsRow base 5 1 v (cur.b ++ ys).length (Lib.byteCells (cur.b ++ ys))
    rw [List.length_append]
    exact ho
  · exact ownsRow_fr h3 F (fun k hk e => by
      rcases e with e | e
      · exact (h6 k hk).1 e
      · exact (h6 k hk).2.1 e)
  · exact ownsRow_fr (h4 i b g hg1 hg2) F (fun k hk e => by
      have := h7 b (List.mem_of_getElem? hg1) k hk
      rcases e with e | e
      · exact this.1 e
      · exact this.2.1 e)
  · rcases hv k hk with h | h
    · exact ⟨(h5 k h).1, .inl (h5 k h).2⟩
    · exact ⟨by omega, .inr h⟩
  · refine ⟨(h6 k hk).1, fun e => ?_, .inl (h6 k hk).2.2⟩
    rcases hv k e with h | h
    · exact (h6 k hk).2.1 h
    · have := h3.lt k hk
      omega
  · have := h7 b hbm k hk
    refine ⟨this.1, fun e => ?_, this.2.2.1, .inl this.2.2.2⟩
    rcases hv k e with h | h
    · exact this.2.1 h
    · obtain ⟨i, hi⟩ := List.mem_iff_getElem?.1 hbm
      have hil : i < ar.length := by have := (List.getElem?_eq_some_iff.1 hi).1; omega
      have := (h4 i b _ hi (List.getElem?_eq_getElem hil)).lt k hk
      omega
  · rcases hk with hk | hk
    · subst hk; exact h0
    · exact (h5 k hk).2
set_option maxRecDepth 20000 in
set_option maxHeartbeats 2000000 in
theorem sheetPut_any (sb base : Nat) (foot : Nat → Prop) (cur : Frm) (ar : List Frm) (u : Value) (ls : List (List UInt8)) (w : World) (h : SheetAt w base foot sb cur ar) (hu : Kept (fun W => Parts W u ls) foot w) (hb : base ≤ w.heap.size) (hn : cur.b.length + ls.flatten.length ≤ 100000000) (hln : ls.length ≤ 1000000) :
    Calls Tryz.prog 59 #[pt sb, u] w fun e w' => e = .returned (.tuple #[]) ∧ SheetAt w' base (fun k => foot k ∨ w.heap.size ≤ k) sb (cur.more ls.flatten) ar ∧ Fr foot w w' := by
  have H := Lib.hid h
  have HU := Lib.hid hu
  obtain ⟨a, cap, rfl, -⟩ := hu.now.form
  obtain ⟨bv, av, bvs, B, h0, -⟩ := h
  have e6 := B.cell 6
  simp at e6
  clear B hu h0
  go_enter Tryz.func59, Tryz.ntmps59
  go_wp2_with fail
  refine (off_no sb w e6).mono ?_
  rintro e w0 ⟨rfl, rfl⟩
  clear e6
  go_wp2_with fail
  go_loopg [10] ls.length (fun g ii wr => ∃ j : Nat, g = ls.length - j ∧ j ≤ ls.length ∧ ii = .int .i64 j ∧ SheetAt wr base (fun k => foot k ∨ w.heap.size ≤ k) sb (cur.more (ls.take j).flatten) ar ∧ Fr foot w wr)
  case atStart =>
    obtain ⟨bv, av, bvs, B, h0, h1, h2, h3, h4, h5, h6, h7, h8⟩ := H.out
    refine ⟨0, rfl, Nat.zero_le _, rfl, ⟨bv, av, bvs, B, .inl h0, ?_, h2, h3, h4, fun k hk => ⟨(h5 k hk).1, .inl (h5 k hk).2⟩, fun k hk => ⟨(h6 k hk).1, (h6 k hk).2.1, .inl (h6 k hk).2.2⟩, fun b hb k hk => ⟨(h7 b hb k hk).1, (h7 b hb k hk).2.1, (h7 b hb k hk).2.2.1, .inl (h7 b hb k hk).2.2.2⟩, h8⟩, Fr.refl _⟩
    simpa [Frm.more] using h1
  case round =>
    obtain ⟨j, hg, hj, rfl, hS, F⟩ := hrel
    have HG := Lib.hid hg
    have HS := Lib.hid hS
    have HF := Lib.hid F
    clear hg hS F
    by_cases hjl : j < ls.length
    · have q1 : (j : Int) < (ls.length : Int) := by omega
      have hP := HU.out wr HF.out
      obtain ⟨_, _, he, hx⟩ := hP.form
      simp only [Value.slice.injEq, true_and] at he
      obtain ⟨rfl, rfl⟩ := he
      obtain ⟨b, off, rfl, hy⟩ := hx (by omega)
      obtain ⟨l, hl⟩ : ∃ l, ls[j]? = some l := ⟨_, List.getElem?_eq_getElem hjl⟩
      obtain ⟨pl, cl, e1, hbl⟩ := hy j l hl
      have hft := flat_take hl
      have hfl := flat_le ls (j + 1)
      rw [hft, List.length_append] at hfl
      have HA := Lib.hid (sheetAdd_any sb base _ _ ar _ l wr HS.out hbl (Nat.le_trans hb HF.out.size) (by
        show (cur.b ++ (ls.take j).flatten).length + l.length ≤ 100000000
        rw [List.length_append]; omega))
      have HFT := Lib.hid hft
      have s0 : (0 : Int) ≤ (j : Int) := by omega
      have hlt := HS.out.lt
      have hs0 := HF.out.size
      clear hP hx hy hl hbl hft hfl
      go_wp2_with fail
      refine HA.out.mono ?_
      rintro e w1 ⟨rfl, S1, F1⟩
      have HF1 := Lib.hid (HF.out.trans' F1 (fun k hk e => by
        rcases e with e | e
        · exact e
        · omega))
      have S2 : SheetAt w1 base (fun k => foot k ∨ w.heap.size ≤ k) sb (cur.more (ls.take (j + 1)).flatten) ar := by
        obtain ⟨bv, av, bvs, B, h0, h1, h2, h3, h4, h5, h6, h7, h8⟩ := S1
        have hw : ∀ k, ((foot k ∨ w.heap.size ≤ k) ∨ wr.heap.size ≤ k) → (foot k ∨ w.heap.size ≤ k) := fun k hk => by
          rcases hk with h | h
          · exact h
          · exact .inr (by omega)
        have hm : (cur.more (ls.take j).flatten).more l = cur.more (ls.take (j + 1)).flatten := by
          rw [HFT.out]
          simp [Frm.more]
        rw [← hm]
        exact ⟨bv, av, bvs, B, hw _ h0, h1, h2, h3, h4, fun k hk => ⟨(h5 k hk).1, hw k (h5 k hk).2⟩, fun k hk => ⟨(h6 k hk).1, (h6 k hk).2.1, hw k (h6 k hk).2.2⟩, fun b hb k hk => ⟨(h7 b hb k hk).1, (h7 b hb k hk).2.1, (h7 b hb k hk).2.2.1, hw k (h7 b hb k hk).2.2.2⟩, h8⟩
      have HS2 := Lib.hid S2
      clear S1 F1 HA S2
      go_wp2_with fail
      go_roundg (ls.length - (j + 1))
      case measure => rw [HG.out]; omega
      case rel => exact ⟨j + 1, rfl, by omega, by go_num, HS2.out, HF1.out⟩
    · obtain rfl : j = ls.length := by omega
      have q1 : ¬ (ls.length : Int) < (ls.length : Int) := by omega
      have hS := HS.out
      rw [List.take_length] at hS
      go_wp2_with fail
      go_end0
      exact ⟨rfl, hS, HF.out⟩
end Go.Proofs.YthamenngccaijaaGreatDoor

namespace Go.Proofs.YthamenngccaijaaGreatDoor
open Go Go.RowKit Go.Q
set_option linter.unusedSimpArgs false
set_option maxRecDepth 20000 in
theorem sheetFail_no (sb base : Nat) (foot : Nat → Prop) (cur : Frm) (ar : List Frm) (w : World) (h : SheetAt w base foot sb cur ar) :
    Calls Tryz.prog 58 #[pt sb, .int .i64 0] w fun e w' => e = .returned (.tuple #[]) ∧ SheetAt w' base foot sb cur ar ∧ Fr foot w w' := by
  have hlt := h.lt
  obtain ⟨bv, av, bvs, B, h0, h1, h2, h3, h4, h5, h6, h7, h8⟩ := h
  have e6 := B.cell 6
  have f6 := B.frozen 6
  simp at e6
  have B2 : Blk (w.setCell ⟨sb, 6, none⟩ (.int .i64 0)) sb 161 #[.int .i64 cur.tag.cls, .int .i64 cur.tag.num, .bool cur.tag.made, .bool cur.set, bv, av, .int .i64 0] := by
    have := B.set 6 (.int .i64 0)
    simpa using this
  have F2 : Fr (fun k => k = sb) w (w.setCell ⟨sb, 6, none⟩ (.int .i64 0)) := Fr.setCell (S := fun k => k = sb) (p := ⟨sb, 6, none⟩) (Fr.refl w) (fun _ => rfl) _
  have HB := Lib.hid B2
  have HF := Lib.hid F2
  have HH := Lib.hid (show SheetAt (w.setCell ⟨sb, 6, none⟩ (.int .i64 0)) base foot sb cur ar from ⟨bv, av, bvs, B2, h0, ownsRow_fr h1 F2 (fun k hk => (h5 k hk).1), h2, ownsRow_fr h3 F2 (fun k hk => (h6 k hk).1), fun i b g hb hg => ownsRow_fr (h4 i b g hb hg) F2 (fun k hk => (h7 b (List.mem_of_getElem? hb) k hk).1), h5, h6, h7, h8⟩)
  clear B B2 F2 h1 h2 h3 h4 h5 h6 h7 h8
  go_enter Tryz.func58, Tryz.ntmps58
  go_wp2_with fail
  refine (off_no sb w e6).mono ?_
  rintro e w0 ⟨rfl, rfl⟩
  go_wp2_with fail
  go_end0
  exact ⟨rfl, HH.out, HF.out.mono (fun k _ hk => by rw [hk]; exact h0)⟩
theorem set5of7 {w : World} {z : Nat} {t : TypeId} {a0 a1 a2 a3 a4 a5 a6 : Value} (B : Blk w z t #[a0, a1, a2, a3, a4, a5, a6]) (v0 v1 v2 v3 v4 : Value) :
    Blk (((((w.setCell ⟨z, 0, none⟩ v0).setCell ⟨z, 1, none⟩ v1).setCell ⟨z, 2, none⟩ v2).setCell ⟨z, 3, none⟩ v3).setCell ⟨z, 4, none⟩ v4) z t #[v0, v1, v2, v3, v4, a5, a6] ∧ Fr (fun k => k = z) w (((((w.setCell ⟨z, 0, none⟩ v0).setCell ⟨z, 1, none⟩ v1).setCell ⟨z, 2, none⟩ v2).setCell ⟨z, 3, none⟩ v3).setCell ⟨z, 4, none⟩ v4) := by
  have G : ∀ {w' : World}, Fr (fun k => k = z) w w' → ∀ (i : Nat) (v : Value), Fr (fun k => k = z) w (w'.setCell ⟨z, i, none⟩ v) := fun f i v => Fr.setCell (S := fun k => k = z) (p := ⟨z, i, none⟩) f (fun _ => rfl) v
  refine ⟨?_, G (G (G (G (G (Fr.refl w) _ _) _ _) _ _) _ _) _ _⟩
  have := ((((B.set 0 v0).set 1 v1).set 2 v2).set 3 v3).set 4 v4
  simpa using this
theorem setAt5 {w : World} {z : Nat} {t : TypeId} {a0 a1 a2 a3 a4 a5 a6 : Value} (B : Blk w z t #[a0, a1, a2, a3, a4, a5, a6]) (v : Value) : Blk (w.setCell ⟨z, 5, none⟩ v) z t #[a0, a1, a2, a3, a4, v, a6] ∧ Fr (fun k => k = z) w (w.setCell ⟨z, 5, none⟩ v) :=
  ⟨by have := B.set 5 v; simpa using this, Fr.setCell (S := fun k => k = z) (p := ⟨z, 5, none⟩) (Fr.refl w) (fun _ => rfl) _⟩
theorem frm_one (f : Frm) {bv : Value} (h : bv.oneCell' = true) : ∀ u ∈ frmCells f bv, u.oneCell' = true := fun u hu => by
  simp only [frmCells, List.mem_cons, List.not_mem_nil, or_false] at hu
  rcases hu with rfl | rfl | rfl | rfl | rfl <;> first | rfl | exact h
set_option maxRecDepth 20000 in
set_option maxHeartbeats 2000000 in
theorem sheetOpen1_any (sb base : Nat) (foot : Nat → Prop) (cur : Frm) (ar : List Frm) (T : Tag) (st : Bool) (w : World) (h : SheetAt w base foot sb cur ar) (hb : base ≤ w.heap.size) (har : ar.length ≤ 1000) :
    Calls Tryz.prog 104 #[pt sb, .agg #[.int .i64 T.cls, .int .i64 T.num, .bool T.made, .bool st, .slice none 0 0]] w fun e w' => e = .returned (.tuple #[]) ∧ SheetAt w' base (fun k => foot k ∨ w.heap.size ≤ k) sb ⟨T, st, []⟩ (ar ++ [cur]) ∧ Fr foot w w' := by
  have hlt := h.lt
  have F0 : Fr (fun _ => False) w (w.alloc (.cells #[.int .i64 T.cls, .int .i64 T.num, .bool T.made, .bool st, .slice none 0 0] 158)) := (Fr.refl w).alloc _
  obtain ⟨bv, av, bvs, B, h0, h1, h2, h3, h4, h5, h6, h7, h8⟩ := h
  have hav : ∀ k, av.ownBlock = some k → k < w.heap.size := fun k hk => (h3.lt k hk).2
  have hbvl : ∀ k, bv.ownBlock = some k → k < w.heap.size := fun k hk => (h1.lt k hk).2
  have HBL := Lib.hid hbvl
  have HAV := Lib.hid hav
  replace B := B.fr F0 (fun h => h)
  replace h1 := ownsRow_fr h1 F0 (fun _ _ h => h)
  replace h3 := ownsRow_fr h3 F0 (fun _ _ h => h)
  replace h4 : ∀ (i : Nat) (b : Value) (f : Frm), bvs[i]? = some b → ar[i]? = some f → _ := fun i b f hb hf => ownsRow_fr (h4 i b f hb hf) F0 (fun _ _ h => h)
  have BF := Blk.new w 158 #[.int .i64 T.cls, .int .i64 T.num, .bool T.made, .bool st, .slice none 0 0]
  obtain ⟨z, hz⟩ : ∃ z, z = w.heap.size := ⟨_, rfl⟩
  rw [← hz] at BF
  have HZ := Lib.hid hz
  have hzs : z ≠ sb := by omega
  clear hz hav hbvl
  go_enter Tryz.func104, Tryz.ntmps104
  go_upto_region 1 with fail
  rw [← HZ.out]
  generalize (w.alloc (.cells #[.int .i64 T.cls, .int .i64 T.num, .bool T.made, .bool st, .slice none 0 0] 158)) = w0 at *
  have e6 := B.cell 6
  simp at e6
  obtain ⟨abv, nbv, cbv, rfl, hnbv⟩ := own_shape h1
  obtain ⟨aav, nav, cav, rfl, hnav⟩ := own_shape h3
  obtain ⟨cells, hcells⟩ : ∃ cells, cells = frmCells cur (.slice abv nbv cbv) := ⟨_, rfl⟩
  obtain ⟨wa, hwa⟩ : ∃ wa, wa = w0.drew.alloc (.cells cells.toArray 158) := ⟨_, rfl⟩
  have Fa : Fr (fun _ => False) w0 wa := by rw [hwa]; exact (Fr.refl w0).drew.alloc _
  have hbw := F0.size
  obtain ⟨a7, c7, w7, hrun, ho7, F7, hv7⟩ := add_gen Tryz.underlying159 info158 rfl (by decide) (by decide) h3 (Nat.le_trans hb hbw) Fa w0.heap.size cells (by rw [hcells]; rfl) (by rw [hwa]; exact Blk.new w0.drew _ _) (by rw [hcells]; exact frm_one cur rfl) (by omega)
  have B7 := B.fr F7 (fun e => (h6 sb e).1 rfl)
  have HS0 := Lib.hid B.cell
  have HSA := Lib.hid (B.alloc (.cells #[.int .i64 cur.tag.cls, .int .i64 cur.tag.num, .bool cur.tag.made, .bool cur.set, .slice abv nbv cbv] 158)).cell
  have HCa := Lib.hid (B.fr Fa (fun h => h)).cell
  have HC7 := Lib.hid B7.cell
  have HZ7 := Lib.hid B7.frozen
  have HB7 := Lib.hid B7
  have HF7 := Lib.hid F7
  have HO7 := Lib.hid ho7
  have HV7 := Lib.hid hv7
  have HCL := Lib.hid hcells
  have HBF := Lib.hid BF
  have H1 := Lib.hid h1
  have H3 := Lib.hid h3
  have H4 := Lib.hid h4
  have H5 := Lib.hid h5
  have H6 := Lib.hid h6
  have H7 := Lib.hid h7
  have H8 := Lib.hid h8
  have HN := Lib.hid hnbv
  have HNA := Lib.hid hnav
  rw [hwa, hcells] at hrun
  rw [hwa] at HCa
  rw [hcells] at HCa
  have HRUN := Lib.hid hrun
  clear hrun ho7 F7 hv7 B7 B BF Fa hwa hcells h1 h3 h4 h5 h6 h7 h8 hnbv hnav
  go_wp2_with fail
  refine (off_no sb w0 e6).mono ?_
  rintro e w0' ⟨rfl, rfl⟩
  go_upto_region 2 with fail
  have S0 := HS0.out
  have Sa := HSA.out
  have S7 := HC7.out
  have Z7 := HZ7.out
  go_region_law (first
    | (refine step_append_run (by rfl) (.tmp 10) (.tmp 15) 159 (by rfl) _ w7 (by exact HRUN.out) ?_)
    | fail)
  all_goals
    obtain ⟨B8, F8⟩ := setAt5 HB7.out (.slice a7 (ar.length + 1) c7)
    have G8 := (HF7.out.mono (T := fun k => k = sb ∨ (Value.slice aav nav cav).ownBlock = some k) (fun _ _ h => .inr h)).trans (F8.mono (fun _ _ h => .inl h))
    have BF8 := (HBF.out.fr G8 (fun e => by
      rcases e with e | e
      · exact hzs e
      · have := HAV.out z e
        have := HZ.out
        omega))
    generalize (w7.setCell ⟨sb, 5, none⟩ (.slice a7 (ar.length + 1) c7)) = w8 at *
    have SB := B8.cell
    have ZB := B8.frozen
    have SF := BF8.cell
    clear S0 Sa S7 Z7
    go_wp2_with fail
    obtain ⟨B9, F9⟩ := set5of7 B8 (.int .i64 T.cls) (.int .i64 T.num) (.bool T.made) (.bool st) (.slice none 0 0)
    generalize (((((w8.setCell ⟨sb, 0, none⟩ (.int .i64 T.cls)).setCell ⟨sb, 1, none⟩ (.int .i64 T.num)).setCell ⟨sb, 2, none⟩ (.bool T.made)).setCell ⟨sb, 3, none⟩ (.bool st)).setCell ⟨sb, 4, none⟩ (.slice none 0 0)) = w9 at *
    have G9 : Fr (fun k => k = sb ∨ (Value.slice aav nav cav).ownBlock = some k) w0 w9 := G8.trans (F9.mono (fun _ _ h => .inl h))
    have h1 := H1.out
    have h3 := H3.out
    have h4 := H4.out
    have h5 := H5.out
    have h6 := H6.out
    have h7 := H7.out
    have hv := HV7.out
    have hlt7 : ∀ k, (Value.slice a7 (ar.length + 1) c7).ownBlock = some k → k ≠ sb := fun k hk => by
      rcases hv k hk with h | h
      · exact (h6 k h).1
      · omega
    have hbl : ∀ (i : Nat) (b : Value) (f : Frm), bvs[i]? = some b → ar[i]? = some f → w9.ownsRow base 5 1 b f.b.length (Lib.byteCells f.b) := fun i b f hb hf => ownsRow_fr (h4 i b f hb hf) G9 (fun k hk e => by
      have := h7 b (List.mem_of_getElem? hb) k hk
      rcases e with e | e
      · exact this.1 e
      · exact this.2.2.1 e)
    have hbv9 := ownsRow_fr h1 G9 (fun k hk e => by
      rcases e with e | e
      · exact (h5 k hk).1 e
      · exact (h6 k e).2.1 hk)
    have hav9 := ownsRow_fr (ownsRow_fr HO7.out F8 (fun k hk e => hlt7 k hk e)) F9 (fun k hk e => hlt7 k hk e)
    have hbw2 : w.heap.size ≤ w0.heap.size := hbw
    go_end0
    refine ⟨rfl, ⟨.slice none 0 0, .slice a7 (ar.length + 1) c7, bvs ++ [.slice abv nbv cbv], B9, .inl h0, ⟨rfl, .inl ⟨rfl, rfl⟩⟩, by rw [List.length_append, List.length_append, h2]; rfl, ?_, fun i b f hb hf => ?_, (fun k hk => by cases hk), fun k hk => ⟨hlt7 k hk, by simp [Value.ownBlock], ?_⟩, fun b hb k hk => ?_, ?_⟩, (F0.mono (fun _ _ h => h.elim)).trans (G9.trans' (Fr.refl w9) (fun _ _ h => h) |>.mono (fun k _ hk => ?_))⟩
    · rw [List.length_append, List.zipWith_append h2.symm, List.flatten_append]
      have := hav9
      rw [HCL.out] at this
      simpa using this
    · rcases Nat.lt_or_ge i bvs.length with hi | hi
      · rw [List.getElem?_append_left hi] at hb
        rw [List.getElem?_append_left (by omega)] at hf
        exact hbl i b f hb hf
      · have hi2 : i = bvs.length := by
          have := (List.getElem?_eq_some_iff.1 hb).1
          simp at this
          omega
        subst hi2
        rw [List.getElem?_append_right (Nat.le_refl _)] at hb
        rw [List.getElem?_append_right (by omega)] at hf
        simp at hb
        simp [h2] at hf
        subst hb; subst hf
        exact hbv9
    · rcases hv k hk with h | h
      · exact .inl (h6 k h).2.2
      · exact .inr (by omega)
    · rcases List.mem_append.1 hb with hm | hm
      · have := h7 b hm k hk
        refine ⟨this.1, by simp [Value.ownBlock], fun e => ?_, .inl this.2.2.2⟩
        rcases hv k e with h | h
        · exact this.2.2.1 h
        · obtain ⟨i, hi⟩ := List.mem_iff_getElem?.1 hm
          have hil : i < ar.length := by have := (List.getElem?_eq_some_iff.1 hi).1; omega
          have := (h4 i b _ hi (List.getElem?_eq_getElem hil)).lt k hk
          omega
      · rw [List.mem_singleton.1 hm] at hk
        refine ⟨(h5 k hk).1, by simp [Value.ownBlock], fun e => ?_, .inl (h5 k hk).2⟩
        rcases hv k e with h | h
        · exact (h6 k h).2.1 hk
        · have := HBL.out k hk
          omega
    · rw [List.pairwise_append]
      refine ⟨H8.out, List.pairwise_singleton _ _, fun b hb b' hb' k hk => ?_⟩
      rw [List.mem_singleton.1 hb']
      exact (h7 b hb k hk).2.1
    · rcases hk with hk | hk
      · rw [hk]; exact h0
      · exact (h6 k hk).2.2
end Go.Proofs.YthamenngccaijaaGreatDoor

namespace Go.Proofs.YthamenngccaijaaGreatDoor
open Go Go.RowKit Go.Q
set_option linter.unusedSimpArgs false
set_option maxRecDepth 20000 in
theorem sheetOpen_any (sb base : Nat) (foot : Nat → Prop) (cur : Frm) (ar : List Frm) (T : Tag) (w : World) (h : SheetAt w base foot sb cur ar) (hb : base ≤ w.heap.size) (har : ar.length ≤ 1000) :
    Calls Tryz.prog 55 #[pt sb, tagV T] w fun e w' => e = .returned (.tuple #[]) ∧ SheetAt w' base (fun k => foot k ∨ w.heap.size ≤ k) sb ⟨T, false, []⟩ (ar ++ [cur]) ∧ Fr foot w w' := by
  have F0 : Fr (fun _ => False) w (w.alloc (.cells #[.int .i64 T.cls, .int .i64 T.num, .bool T.made] 97)) := (Fr.refl w).alloc _
  have BT := Blk.new w 97 #[.int .i64 T.cls, .int .i64 T.num, .bool T.made]
  have hs := F0.size
  have HO := Lib.hid (sheetOpen1_any sb base foot cur ar T false _ (h.old F0) (Nat.le_trans hb hs) har)
  have HF := Lib.hid F0
  obtain ⟨z, hz⟩ : ∃ z, z = w.heap.size := ⟨_, rfl⟩
  rw [← hz] at BT
  have HZ := Lib.hid hz
  have ST := BT.cell
  clear h F0 BT hz
  rw [show tagV T = .agg #[.int .i64 T.cls, .int .i64 T.num, .bool T.made] from rfl]
  go_enter Tryz.func55, Tryz.ntmps55
  go_upto_region 1 with fail
  rw [← HZ.out]
  generalize (w.alloc (.cells #[.int .i64 T.cls, .int .i64 T.num, .bool T.made] 97)) = w0 at *
  go_wp2_with fail
  refine HO.out.mono ?_
  rintro e w1 ⟨rfl, S1, F1⟩
  have HS := Lib.hid S1
  have HF1 := Lib.hid ((HF.out.mono (fun _ _ h => h.elim)).trans F1)
  clear S1 F1 HO
  go_wp2_with fail
  go_end0
  obtain ⟨bv, av, bvs, B, h0, h1, h2, h3, h4, h5, h6, h7, h8⟩ := HS.out
  have hw : ∀ k, (foot k ∨ w0.heap.size ≤ k) → (foot k ∨ w.heap.size ≤ k) := fun k hk => by
    rcases hk with h | h
    · exact .inl h
    · exact .inr (Nat.le_trans hs h)
  exact ⟨rfl, ⟨bv, av, bvs, B, hw _ h0, h1, h2, h3, h4, fun k hk => ⟨(h5 k hk).1, hw k (h5 k hk).2⟩, fun k hk => ⟨(h6 k hk).1, (h6 k hk).2.1, hw k (h6 k hk).2.2⟩, fun b hb k hk => ⟨(h7 b hb k hk).1, (h7 b hb k hk).2.1, (h7 b hb k hk).2.2.1, hw k (h7 b hb k hk).2.2.2⟩, h8⟩, HF1.out⟩
set_option maxRecDepth 20000 in
set_option maxHeartbeats 2000000 in
theorem frameWhole_any (sb base : Nat) (foot : Nat → Prop) (T : Tag) (l : List UInt8) (ar : List Frm) (w : World) (h : SheetAt w base foot sb ⟨T, false, l⟩ ar) (hT : tagGood T) (hl : l.length ≤ 16777216) :
    Calls Tryz.prog 108 #[pt sb] w fun e w' => (∃ a c, e = .returned (.tuple #[.slice a (wrapS T l).length c, .int .i64 0]) ∧ w'.ownsRow w.heap.size 5 1 (.slice a (wrapS T l).length c) (wrapS T l).length (Lib.byteCells (wrapS T l))) ∧ Fr (fun _ => False) w w' := by
  obtain ⟨bv, av, bvs, B, h0, h1, -⟩ := h
  have hv := (Vals.of_own h1).1
  simp only at hv
  obtain ⟨ab, cb, rfl, -⟩ := Vals.form hv
  have HV := Lib.hid hv
  have HS0 := Lib.hid B.cell
  have HSA := Lib.hid (B.alloc (.cells #[.slice ab l.length cb] 23)).cell
  have e3 := B.cell 3
  simp at e3
  have HW := Lib.hid (fun w' (F : Fr (fun _ => False) w w') (sl : Value) (hp : Parts w' sl [l]) => wrap_any T hT sl [l] w' hp (by simpa using hl) (by simp))
  rw [show ([l] : List (List UInt8)).flatten = l from by simp] at HW
  have hsl := B.lt
  have HB := Lib.hid B
  clear B hv h1 h0 hT
  obtain ⟨c, n, m⟩ := T
  go_enter Tryz.func108, Tryz.ntmps108
  go_upto_region 2 with fail
  have S0 := HS0.out
  have Sa := HSA.out
  simp only at S0 Sa
  obtain ⟨R, hR⟩ : ∃ R, R = wrapS ⟨c, n, m⟩ l := ⟨_, rfl⟩
  rw [← hR] at HW
  have HR := Lib.hid hR
  have HWC := Lib.hid (HW.out (w.alloc (.cells #[.slice ab l.length cb] 23)).drew ((Fr.refl w).alloc _).drew (.slice (some ⟨w.heap.size, 0, none⟩) 1 1) ((Parts.one HV.out).old (Fr.refl _).drew))
  have FA : Fr (fun _ => False) w (w.alloc (.cells #[.slice ab l.length cb] 23)).drew := ((Fr.refl w).alloc _).drew
  have HFA := Lib.hid FA
  clear hR HW HS0 HSA FA
  go_region_held3 (fun w' => ∀ i, w'.cell? ⟨sb, i, none⟩ = (#[.int .i64 c, .int .i64 n, .bool m, .bool false, .slice ab l.length cb, av, .int .i64 0] : Array Value)[i]?) (first | exact S0 | exact Sa | exact (fun i => (HB.out.fr (HFA.out.trans F2) (fun h => h)).cell i)) (first
    | (go_at_call 89; refine HWC.out.mono ?_; rintro e w2 ⟨v2, rfl, hown, F2⟩; obtain ⟨a2, m2, c2, rfl, rfl⟩ := own_shape hown))
  all_goals
    have HO := Lib.hid (own_le hown HFA.out.size)
    have HF2 := Lib.hid (HFA.out.trans F2)
    clear hown F2 HWC HFA S0 Sa
    go_wp2_with fail
    refine bodyPost_ret (v := .tuple #[.slice a2 R.length c2, .int .i64 0]) (by simp [results, Tryz.results108, go_sem]) rfl ⟨?_, HF2.out⟩
    rw [← HR.out]
    exact ⟨a2, c2, rfl, HO.out⟩
set_option maxRecDepth 20000 in
theorem sheetBytes_any (sb base : Nat) (foot : Nat → Prop) (cur : Frm) (w : World) (h : SheetAt w base foot sb cur []) (hl : cur.b.length ≤ 100000000) :
    Calls Tryz.prog 61 #[pt sb] w fun e w' => (∃ a c, e = .returned (.tuple #[.slice a cur.b.length c, .int .i64 0]) ∧ w'.ownsRow w.heap.size 5 1 (.slice a cur.b.length c) cur.b.length (Lib.byteCells cur.b)) ∧ Fr (fun _ => False) w w' := by
  obtain ⟨bv, av, bvs, B, h0, h1, h2, h3, -⟩ := h
  obtain ⟨aav, nav, cav, rfl, hnav⟩ := own_shape h3
  simp only [List.length_nil] at hnav
  subst hnav
  have hv := (Vals.of_own h1).1
  have HC := Lib.hid (cloneByte_any bv cur.b w hv (by omega))
  obtain ⟨ab, cb, rfl, -⟩ := Vals.form hv
  have e4 := B.cell 4
  have e5 := B.cell 5
  have e6 := B.cell 6
  simp at e4 e5 e6
  clear B hv h0 h1 h2 h3
  go_enter Tryz.func61, Tryz.ntmps61
  go_wp2_with fail
  refine HC.out.mono ?_
  rintro e w1 ⟨⟨u, rfl, hown⟩, F1⟩
  obtain ⟨a1, m1, c1, rfl, rfl⟩ := own_shape hown
  have HO := Lib.hid hown
  clear hown HC
  go_wp2_with fail
  exact bodyPost_ret (v := .tuple #[.slice a1 cur.b.length c1, .int .i64 0]) (by simp [results, Tryz.results61, go_sem]) rfl ⟨⟨a1, c1, rfl, HO.out⟩, F1⟩
end Go.Proofs.YthamenngccaijaaGreatDoor

namespace Go.Proofs.YthamenngccaijaaGreatDoor
open Go Go.RowKit Go.Q
set_option linter.unusedSimpArgs false
theorem own_front {w : World} {base n sz : Nat} {t : TypeId} {a : Option Addr} {m c : Nat} {xs : List Value} (h : w.ownsRow base t sz (.slice a m c) n xs) (k : Nat) (hk : k ≤ n) : w.ownsRow base t sz (.slice a k c) k (xs.take (k * sz)) := by
  obtain ⟨h1, h2⟩ := h
  refine ⟨by rw [List.length_take, h1]; exact Nat.min_eq_left (Nat.mul_le_mul_right sz hk), ?_⟩
  rcases h2 with ⟨he, h0⟩ | ⟨g, cap, cur, he, hg, hh, hnc, hcm, hcs, htk⟩
  · simp only [Value.slice.injEq] at he
    obtain ⟨rfl, rfl, rfl⟩ := he
    obtain rfl : k = 0 := by omega
    exact .inl ⟨rfl, rfl⟩
  · simp only [Value.slice.injEq] at he
    obtain ⟨rfl, rfl, rfl⟩ := he
    refine .inr ⟨g, _, cur, rfl, hg, hh, by omega, hcm, hcs, ?_⟩
    rw [← htk, List.take_take, Nat.min_eq_left (Nat.mul_le_mul_right sz hk)]
theorem zip_frm : ∀ (ar : List Frm) (bvs : List Value) (i : Nat) (f : Frm) (b : Value), ar[i]? = some f → bvs[i]? = some b → ∀ j u, (frmCells f b)[j]? = some u → (List.zipWith frmCells ar bvs).flatten[5 * i + j]? = some u
  | [], _, i, f, b, h, _, _, _, _ => by simp at h
  | _ :: _, [], i, f, b, _, h, _, _, _ => by simp at h
  | x :: ar, y :: bvs, 0, f, b, h1, h2, j, u, hu => by
    simp only [List.getElem?_cons_zero, Option.some.injEq] at h1 h2
    subst h1; subst h2
    simp only [List.zipWith_cons_cons, List.flatten_cons, Nat.mul_zero, Nat.zero_add]
    rw [List.getElem?_append_left (List.getElem?_eq_some_iff.1 hu).1]
    exact hu
  | x :: ar, y :: bvs, i + 1, f, b, h1, h2, j, u, hu => by
    simp only [List.getElem?_cons_succ] at h1 h2
    have := zip_frm ar bvs i f b h1 h2 j u hu
    simp only [List.zipWith_cons_cons, List.flatten_cons]
    rw [List.getElem?_append_right (by simp [frmCells]; omega), show 5 * (i + 1) + j - (frmCells x y).length = 5 * i + j from by simp [frmCells]; omega]
    exact this
theorem zip_take : ∀ (ar : List Frm) (bvs : List Value) (k : Nat), ((List.zipWith frmCells ar bvs).flatten).take (k * 5) = (List.zipWith frmCells (ar.take k) (bvs.take k)).flatten
  | [], _, k => by simp
  | _ :: _, [], k => by simp
  | x :: ar, y :: bvs, 0 => by simp
  | x :: ar, y :: bvs, k + 1 => by
    have := zip_take ar bvs k
    simp only [List.zipWith_cons_cons, List.flatten_cons, List.take_succ_cons]
    rw [List.take_append, List.take_of_length_le (by simp [frmCells]; omega), ← this]
    congr 2
    simp [frmCells]; omega
theorem SheetAt.wide {w : World} {base sb : Nat} {foot foot' : Nat → Prop} {cur : Frm} {ar : List Frm} (h : SheetAt w base foot sb cur ar) (hw : ∀ k, foot k → foot' k) : SheetAt w base foot' sb cur ar := by
  obtain ⟨bv, av, bvs, B, h0, h1, h2, h3, h4, h5, h6, h7, h8⟩ := h
  exact ⟨bv, av, bvs, B, hw _ h0, h1, h2, h3, h4, fun k hk => ⟨(h5 k hk).1, hw k (h5 k hk).2⟩, fun k hk => ⟨(h6 k hk).1, (h6 k hk).2.1, hw k (h6 k hk).2.2⟩, fun b hb k hk => ⟨(h7 b hb k hk).1, (h7 b hb k hk).2.1, (h7 b hb k hk).2.2.1, hw k (h7 b hb k hk).2.2.2⟩, h8⟩
theorem own_cell {w : World} {base n sz : Nat} {t : TypeId} {a : Option Addr} {m c : Nat} {xs : List Value} (h : w.ownsRow base t sz (.slice a m c) n xs) (h0 : 0 < n) : ∃ g, a = some ⟨g, 0, none⟩ ∧ ∀ i u, xs[i]? = some u → w.cell? ⟨g, i, none⟩ = some u := by
  obtain ⟨h1, h2⟩ := h
  rcases h2 with ⟨he, hn⟩ | ⟨g, cap, cur, he, hg, hh, hnc, hcm, hcs, htk⟩
  · omega
  · simp only [Value.slice.injEq] at he
    obtain ⟨rfl, rfl, rfl⟩ := he
    refine ⟨g, rfl, fun i u hu => ?_⟩
    have hil := (List.getElem?_eq_some_iff.1 hu).1
    rw [← htk, List.getElem?_take_of_lt (by omega)] at hu
    simp only [World.cell?, hh]
    simpa using hu
set_option maxRecDepth 20000 in
set_option maxHeartbeats 4000000 in
theorem sheetShut_any (sb base : Nat) (foot : Nat → Prop) (T : Tag) (l : List UInt8) (ar : List Frm) (top : Frm) (w : World) (h : SheetAt w base foot sb ⟨T, false, l⟩ (ar ++ [top])) (hT : tagGood T) (hl : l.length ≤ 16777216) (hb : base ≤ w.heap.size) (har : ar.length ≤ 1000) (htl : top.b.length + (wrapS T l).length ≤ 100000000) :
    Calls Tryz.prog 60 #[pt sb] w fun e w' => e = .returned (.tuple #[]) ∧ SheetAt w' base (fun k => foot k ∨ w.heap.size ≤ k) sb (top.more (wrapS T l)) ar ∧ Fr foot w w' := by
  have HW := Lib.hid (frameWhole_any sb base foot T l (ar ++ [top]) w h hT hl)
  have hlt := h.lt
  obtain ⟨bv, av, bvs, B, h0, h1, h2, h3, h4, h5, h6, h7, h8⟩ := h
  rw [List.length_append, List.length_singleton] at h2 h3
  obtain ⟨aav, nav, cav, rfl, rfl⟩ := own_shape h3
  obtain ⟨tb, htb⟩ : ∃ tb, bvs[ar.length]? = some tb := ⟨_, List.getElem?_eq_getElem (by omega)⟩
  have hat : (ar ++ [top])[ar.length]? = some top := by rw [List.getElem?_append_right (Nat.le_refl _)]; simp
  have htown := h4 _ _ _ htb hat
  obtain ⟨atb, ntb, ctb, rfl, hntb⟩ := own_shape htown
  subst hntb
  obtain ⟨R, hR⟩ : ∃ R, R = wrapS T l := ⟨_, rfl⟩
  rw [← hR] at HW htl ⊢
  have HR := Lib.hid hR
  clear hR
  have e5 := B.cell 5
  have e6 := B.cell 6
  simp at e5 e6
  have hw1 : IntKind.i64.wrap (((ar.length + 1 : Nat) : Int) - 1) = (ar.length : Int) := by simp [IntKind.wrap, IntKind.signed, IntKind.bits]; omega
  have q1 : ¬ (ar.length : Int) < 0 := by omega
  go_enter Tryz.func60, Tryz.ntmps60
  go_wp2_with fail
  refine (off_no sb w e6).mono ?_
  rintro e w0 ⟨rfl, rfl⟩
  go_upto_region 4 with fail
  go_wp2_with fail
  refine HW.out.mono ?_
  rintro e w1 ⟨⟨aR, cR, rfl, hown⟩, F1⟩
  have B1 := B.fr F1 (fun h => h)
  have g1 := ownsRow_fr h1 F1 (fun _ _ h => h)
  have g3 := ownsRow_fr h3 F1 (fun _ _ h => h)
  have gt := ownsRow_fr htown F1 (fun _ _ h => h)
  have c5 := B1.cell 5
  simp at c5
  obtain ⟨g, rfl, hgc⟩ := own_cell g3 (by omega)
  obtain ⟨hcv, hcm⟩ : ar.length + 1 ≤ cav ∧ cav ≤ maxLen := by
    rcases g3.2 with ⟨he, -⟩ | ⟨g', cap, cur, he, -, -, hnc, hcm, -⟩
    · simp at he
    · simp only [Value.slice.injEq] at he
      obtain ⟨-, -, rfl⟩ := he
      exact ⟨hnc, hcm⟩
  have hzf : ∀ j u, (frmCells top (.slice atb top.b.length ctb))[j]? = some u → w1.cell? ⟨g, ar.length * 5 + j, none⟩ = some u := fun j u hu => by
    rw [Nat.mul_comm]
    exact hgc _ _ (zip_frm _ _ _ _ _ hat htb j u hu)
  have k0 : w1.cell? ⟨g, ar.length * 5, none⟩ = _ := hzf 0 _ rfl
  have k1 := hzf 1 _ rfl
  have k2 := hzf 2 _ rfl
  have k3 := hzf 3 _ rfl
  have k4 := hzf 4 _ rfl
  have H := Lib.hid (And.intro h1 (And.intro h3 (And.intro h4 (And.intro h5 (And.intro h6 (And.intro h7 (And.intro h8 (And.intro hat (And.intro htb (And.intro htown (And.intro B (And.intro B1 (And.intro g1 (And.intro g3 (And.intro gt (And.intro hown (And.intro F1 (And.intro hgc (And.intro hT h0)))))))))))))))))))
  clear h1 h3 h4 h5 h6 h7 h8 hat htb htown B B1 g1 g3 gt hown F1 hgc hT h0 HW e5 e6 hzf
  have SB := H.out.2.2.2.2.2.2.2.2.2.2.2.1.cell
  have ZB := H.out.2.2.2.2.2.2.2.2.2.2.2.1.frozen
  go_upto_region 8 with fail
  obtain ⟨B2, F2⟩ := set5of7 H.out.2.2.2.2.2.2.2.2.2.2.2.1 (.int .i64 top.tag.cls) (.int .i64 top.tag.num) (.bool top.tag.made) (.bool top.set) (.slice atb top.b.length ctb)
  generalize (((((w1.setCell ⟨sb, 0, none⟩ (.int .i64 top.tag.cls)).setCell ⟨sb, 1, none⟩ (.int .i64 top.tag.num)).setCell ⟨sb, 2, none⟩ (.bool top.tag.made)).setCell ⟨sb, 3, none⟩ (.bool top.set)).setCell ⟨sb, 4, none⟩ (.slice atb top.b.length ctb)) = w2 at *
  have e5 := B2.cell 5
  simp at e5
  have ZB2 := B2.frozen
  have HB2 := Lib.hid B2
  have HF2 := Lib.hid F2
  clear k0 k1 k2 k3 k4 c5 SB ZB B2 F2
  have s0 : (0 : Int) ≤ (ar.length : Int) := by omega
  have s1 : (ar.length : Int) ≤ (cav : Int) := by omega
  go_upto_region 9 with fail
  obtain ⟨B3, F3⟩ := setAt5 HB2.out (.slice (some ⟨g, 0, none⟩) ar.length cav)
  generalize (w2.setCell ⟨sb, 5, none⟩ (.slice (some ⟨g, 0, none⟩) ar.length cav)) = w3 at *
  obtain ⟨h1, h3, h4, h5, h6, h7, h8, hat, htb, htown, B, B1, g1, g3, gt, hown, F1, hgc, hT, h0⟩ := H.out
  have G3 : Fr (fun k => k = sb) w w3 := (F1.mono (fun _ _ h => h.elim)).trans (HF2.out.trans F3)
  have F13 : Fr (fun k => k = sb) w1 w3 := HF2.out.trans F3
  have g33 := own_front (ownsRow_fr g3 F13 (fun k hk => (h6 k hk).1)) ar.length (by omega)
  rw [zip_take, List.take_left' rfl] at g33
  have hmt : ∀ i b, (bvs.take ar.length)[i]? = some b → bvs[i]? = some b ∧ i < ar.length := fun i b hi => by
    have := (List.getElem?_eq_some_iff.1 hi).1
    rw [List.length_take] at this
    have hil : i < ar.length := by omega
    rw [List.getElem?_take_of_lt hil] at hi
    exact ⟨hi, hil⟩
  have S3 : SheetAt w3 base foot sb top ar := by
    refine ⟨.slice atb top.b.length ctb, .slice (some ⟨g, 0, none⟩) ar.length cav, bvs.take ar.length, B3, h0, ownsRow_fr gt F13 (fun k hk => (h7 _ (List.mem_of_getElem? htb) k hk).1), by rw [List.length_take]; omega, g33, fun i b f hb hf => ?_, fun k hk => ?_, fun k hk => ?_, fun b hb k hk => ?_, ?_⟩
    · obtain ⟨hb', hil⟩ := hmt i b hb
      exact ownsRow_fr (h4 i b f hb' (by rw [List.getElem?_append_left hil]; exact hf)) G3 (fun k hk => (h7 b (List.mem_of_getElem? hb') k hk).1)
    · have := h7 _ (List.mem_of_getElem? htb) k hk
      exact ⟨this.1, this.2.2.2⟩
    · have hk' : (Value.slice (some ⟨g, 0, none⟩) (ar.length + 1) cav).ownBlock = some k := hk
      have := h6 k hk'
      exact ⟨this.1, fun e => (h7 _ (List.mem_of_getElem? htb) k e).2.2.1 hk', this.2.2⟩
    · obtain ⟨i, hi⟩ := List.mem_iff_getElem?.1 hb
      obtain ⟨hb', hil⟩ := hmt i b hi
      have := h7 b (List.mem_of_getElem? hb') k hk
      refine ⟨this.1, fun e => ?_, this.2.2.1, this.2.2.2⟩
      have hp := List.pairwise_iff_getElem.1 h8 i ar.length (List.getElem?_eq_some_iff.1 hb').1 (by omega) hil
      rw [(List.getElem?_eq_some_iff.1 hb').2, (List.getElem?_eq_some_iff.1 htb).2] at hp
      exact hp k hk e
    · exact h8.sublist (List.take_sublist _ _)
  have hs3 := G3.size
  have hs1 := F1.size
  have hR3 := (Vals.of_own (ownsRow_fr hown F13 (fun k hk e => by
    have := (hown.lt k hk).1
    omega))).1
  have HA := Lib.hid (sheetAdd_any sb base foot top ar (.slice aR R.length cR) R w3 S3 hR3 (by omega) htl)
  have HG := Lib.hid G3
  have HR0 := Lib.hid h0
  clear h1 h3 h4 h5 h6 h7 h8 hat htb htown B B1 g1 g3 gt hown F1 hgc hT h0 B3 F3 F13 g33 S3 hR3 G3 hmt H HB2 HF2 e5 ZB2
  go_wp2_with fail
  refine HA.out.mono ?_
  rintro e w4 ⟨rfl, S4, F4⟩
  go_wp2_with fail
  go_end0
  refine ⟨rfl, S4.wide (fun k hk => ?_), (HG.out.mono (fun k _ h => h ▸ HR0.out)).trans F4⟩
  rcases hk with h | h
  · exact .inl h
  · exact .inr (by omega)
end Go.Proofs.YthamenngccaijaaGreatDoor

namespace Go.Q
open Go Go.RowKit
def wholesN (n : List (List Part)) : List (List UInt8) := n.map fun r => rdnWhole ((rdnS r).getD [])
def nameWhole (n : List (List Part)) : List UInt8 := wrapS (tagOf 16) (wholesN n).flatten
end Go.Q
namespace Go.Proofs.YthamenngccaijaaGreatDoor
open Go Go.RowKit Go.Q
set_option linter.unusedSimpArgs false
theorem SheetAt.now {w : World} {base sb : Nat} {foot : Nat → Prop} {cur : Frm} {ar : List Frm} (h : SheetAt w base foot sb cur ar) : SheetAt w base (fun k => foot k ∧ k < w.heap.size) sb cur ar := by
  have hlt := h.lt
  obtain ⟨bv, av, bvs, B, h0, h1, h2, h3, h4, h5, h6, h7, h8⟩ := h
  refine ⟨bv, av, bvs, B, ⟨h0, hlt⟩, h1, h2, h3, h4, fun k hk => ⟨(h5 k hk).1, (h5 k hk).2, (h1.lt k hk).2⟩, fun k hk => ⟨(h6 k hk).1, (h6 k hk).2.1, (h6 k hk).2.2, (h3.lt k hk).2⟩, fun b hb k hk => ?_, h8⟩
  have := h7 b hb k hk
  refine ⟨this.1, this.2.1, this.2.2.1, this.2.2.2, ?_⟩
  obtain ⟨i, hi⟩ := List.mem_iff_getElem?.1 hb
  have hil : i < ar.length := by have := (List.getElem?_eq_some_iff.1 hi).1; omega
  exact ((h4 i b _ hi (List.getElem?_eq_getElem hil)).lt k hk).2
theorem parts_kept {w : World} {foot : Nat → Prop} {R : List UInt8} {a : Option Addr} {n c base : Nat} (ho : w.ownsRow base 5 1 (.slice a n c) n (Lib.byteCells R)) (hf : ∀ k, foot k → k < base) (hb : base ≤ w.heap.size) : Kept (fun W => Parts W (.slice (some ⟨w.heap.size, 0, none⟩) 1 1) [R]) foot (w.alloc (.cells #[.slice a n c] 23)) := fun W F => by
  have B := (Blk.new w 23 #[.slice a n c]).fr F (fun h => by have := hf _ h; omega)
  have ho2 := ownsRow_fr (ownsRow_fr ho ((Fr.refl w).alloc _) (fun _ _ h => h)) F (fun k hk h => by have := hf _ h; have := (ho.lt k hk).1; omega)
  refine ⟨[.slice a n c], Vals.of_block B (by show 1 ≤ maxLen; decide), rfl, fun i u l hu hl => ?_⟩
  cases i with
  | zero =>
    simp only [List.getElem?_cons_zero, Option.some.injEq] at hu hl
    subst hu; subst hl
    exact (Vals.of_own ho2).1
  | succ i => simp at hu
set_option maxRecDepth 20000 in
set_option maxHeartbeats 4000000 in
theorem nameWrite_ok (v : Value) (n : List (List Part)) (w : World) (h : NameAt w v n) (hf : ∀ r ∈ n, fewB r) (hok : nameOk n = true) (hs : (wholesN n).flatten.length ≤ 16777216) :
    Calls Tryz.prog 11 #[v] w fun e w' => (∃ a c, e = .returned (.tuple #[.slice a (nameWhole n).length c, .int .i64 0]) ∧ w'.ownsRow w.heap.size 5 1 (.slice a (nameWhole n).length c) (nameWhole n).length (Lib.byteCells (nameWhole n))) ∧ Fr (fun _ => False) w w' := by
  have H := Lib.hid h
  have HRI := right_any v n w h hf
  rw [hok] at HRI
  obtain ⟨hn64, hrd⟩ := name_rdns hok
  have HRD := Lib.hid hrd
  have HS := Lib.hid hs
  obtain ⟨a, cap, rfl, hc, hm, -⟩ := h
  clear hok hrd hs
  go_enter Tryz.func11, Tryz.ntmps11
  go_wp2_with fail
  refine HRI.mono ?_
  rintro e w0 ⟨rfl, F0⟩
  have HF0 := Lib.hid F0
  clear F0 HRI
  go_wp2_with fail
  refine (sheetNew_any w0).mono ?_
  rintro e w1 ⟨rfl, S1, F1⟩
  have HS1 := Lib.hid S1
  have HF1 := Lib.hid F1
  clear S1 F1
  go_wp2_with fail
  refine (headOf_any 16 w1).mono ?_
  rintro e w2 ⟨rfl, F2⟩
  have HS2 := Lib.hid (HS1.out.old F2)
  have HF2 := Lib.hid (HF1.out.trans F2)
  have hz2 := HS2.out.lt
  have HO := Lib.hid (sheetOpen_any w0.heap.size w0.heap.size _ _ _ (tagOf 16) w2 HS2.out (by omega) (by simp))
  clear F2 HS1 HF1 HS2
  go_wp2_with fail
  refine HO.out.mono ?_
  rintro e w3 ⟨rfl, S3, F3⟩
  have HS3 := Lib.hid S3.now
  have HF3 := Lib.hid (HF2.out.trans' F3 (fun k hk e => by omega))
  clear S3 F3 HF2 HO
  go_wp2_with fail
  go_loopg [18] n.length (fun g ii wr => ∃ j : Nat, g = n.length - j ∧ j ≤ n.length ∧ ii = .int .i64 j ∧ SheetAt wr w0.heap.size (fun k => w0.heap.size ≤ k ∧ k < wr.heap.size) w0.heap.size ⟨tagOf 16, false, ((wholesN n).take j).flatten⟩ [⟨⟨0, 0, false⟩, false, []⟩] ∧ Fr (fun _ => False) w0 wr)
  case atStart =>
    exact ⟨0, rfl, Nat.zero_le _, rfl, HS3.out.wide (fun k hk => ⟨by rcases hk.1 with h | h <;> omega, hk.2⟩), HF3.out⟩
  case round =>
    obtain ⟨j, hg, hj, rfl, hS, F⟩ := hrel
    have HG := Lib.hid hg
    have HSj := Lib.hid hS
    have HF := Lib.hid F
    have HFF := Lib.hid (HF0.out.trans F)
    clear hg hS HS3 HF3
    by_cases hjl : j < n.length
    · obtain ⟨a0, cap0, he, _, _, hx⟩ := H.out.old HFF.out
      simp only [Value.slice.injEq, true_and] at he
      obtain ⟨rfl, rfl⟩ := he
      obtain ⟨b, off, rfl, hy⟩ := hx (by omega)
      obtain ⟨r, hr⟩ : ∃ r, n[j]? = some r := ⟨_, List.getElem?_eq_getElem hjl⟩
      obtain ⟨x, e1, hA⟩ := hy j r hr
      have hmem := List.mem_of_getElem? hr
      obtain ⟨ws, hws⟩ := Option.isSome_iff_exists.1 (HRD.out r hmem)
      have hwl : (wholesN n)[j]? = some (rdnWhole ws) := by
        unfold wholesN
        rw [List.getElem?_map, hr]
        simp [hws]
      have hft := flat_take hwl
      have hfl := flat_le (wholesN n) (j + 1)
      rw [hft, List.length_append] at hfl
      have hle := HS.out
      have hwr : ws.flatten.length ≤ (rdnWhole ws).length := by
        unfold rdnWhole
        rw [wrap_len]
        omega
      have HW := writeRdn_any x r wr hA (hf r hmem) (fun ws' h' => by rw [hws] at h'; cases h'; omega)
      rw [hws] at HW
      have HWR := Lib.hid HW
      have HFT := Lib.hid hft
      have r1 : (0 : Int) ≤ (j : Int) := by omega
      have r2 : (j : Int) < (n.length : Int) := by omega
      obtain ⟨R, hR⟩ : ∃ R, R = rdnWhole ws := ⟨_, rfl⟩
      rw [← hR] at hfl
      have HR := Lib.hid hR
      clear hx hy hr hA hmem hws hwl hft hwr F HW hR
      go_wp2_with fail
      refine HWR.out.mono ?_
      rintro e w4 ⟨hres, F4⟩
      unfold writeRdnOut at hres
      simp only at hres
      rw [← HR.out] at hres
      obtain ⟨aR, cR, rfl, hown⟩ := hres
      have HS4 := Lib.hid (HSj.out.old F4)
      have HF4 := Lib.hid F4
      have HOW := Lib.hid hown
      clear HWR F4 hown
      go_wp2_with fail
      refine (sheetFail_no _ _ _ _ _ w4 HS4.out).mono ?_
      rintro e w5 ⟨rfl, S5, F5⟩
      have HS5 := Lib.hid S5
      have HF5 := Lib.hid F5
      clear S5 F5 HS4
      have hown5 := ownsRow_fr HOW.out HF5.out (fun k hk e => by
        have := (HOW.out.lt k hk).1
        omega)
      have hz4 := HF4.out.size
      have hz5 := HF5.out.size
      have hz0 := HF.out.size
      have FA : Fr (fun _ => False) w5 (w5.alloc (.cells #[.slice aR R.length cR] 23)) := (Fr.refl w5).alloc _
      have hzA := FA.size
      have HP := Lib.hid (sheetPut_any w0.heap.size w0.heap.size _ _ _ _ [R] _ (HS5.out.old FA) (parts_kept hown5 (fun k hk => hk.2) (by omega)) (by omega) (by
        show ((wholesN n).take j).flatten.length + [R].flatten.length ≤ 100000000
        simp only [List.flatten_cons, List.flatten_nil, List.append_nil]
        omega) (by simp))
      have G5 := Lib.hid ((HF4.out.mono (T := fun k => w0.heap.size ≤ k) (fun _ _ h => h.elim)).trans ((HF5.out.mono (fun _ _ h => h.1)).trans (FA.mono (fun _ _ h => h.elim))))
      clear hown5 FA HS5 HF4 HF5 HOW
      go_wp2_with fail
      refine HP.out.mono ?_
      rintro e w6 ⟨rfl, S6, F6⟩
      have HS6 := Lib.hid (S6.now.wide (foot' := fun k => w0.heap.size ≤ k ∧ k < w6.heap.size) (fun k hk => ⟨by rcases hk.1 with h | h <;> omega, hk.2⟩))
      have HF6 := Lib.hid (HF.out.trans' (G5.out.trans (F6.mono (fun _ _ h => h.1))) (fun k hk e => by omega))
      clear S6 F6 G5 HP HF HFF
      go_wp2_with fail
      go_roundg (n.length - (j + 1))
      case measure => rw [HG.out]; omega
      case rel =>
        refine ⟨j + 1, rfl, by omega, by go_num, ?_, HF6.out⟩
        have := HS6.out
        rw [HFT.out, ← HR.out]
        simpa [Frm.more] using this
    · obtain rfl : j = n.length := by omega
      have q1 : ¬ (n.length : Int) < (n.length : Int) := by omega
      have hS := HSj.out
      rw [show (wholesN n).take n.length = wholesN n from List.take_of_length_le (by simp [wholesN])] at hS
      have hsl := hS.lt
      have hz0 := HF0.out.size
      have hsn := HS.out
      have hll := len_small (wholesN n).flatten.length hsn
      have hwl : (nameWhole n).length ≤ 20000000 := by
        unfold nameWhole
        rw [wrap_len]
        omega
      have HSH := Lib.hid (sheetShut_any w0.heap.size w0.heap.size _ (tagOf 16) (wholesN n).flatten [] ⟨⟨0, 0, false⟩, false, []⟩ wr hS ⟨by decide, by decide⟩ hsn (by omega) (by simp) (by
        show ([] : List UInt8).length + (nameWhole n).length ≤ 100000000
        simp only [List.length_nil]
        omega))
      clear hS
      go_wp2_with fail
      refine HSH.out.mono ?_
      rintro e w4 ⟨rfl, S4, F4⟩
      obtain ⟨R, hR⟩ : ∃ R, R = nameWhole n := ⟨_, rfl⟩
      have HB := Lib.hid (sheetBytes_any w0.heap.size w0.heap.size _ _ w4 S4 (by
        show ([] ++ nameWhole n).length ≤ 100000000
        simp only [List.nil_append]
        omega))
      rw [show (Frm.more ⟨⟨0, 0, false⟩, false, []⟩ (wrapS (tagOf 16) (wholesN n).flatten)).b = R from by rw [hR]; rfl] at HB
      have HR := Lib.hid hR
      have HF4 := Lib.hid (HFF.out.trans' F4 (fun k hk e => by omega))
      clear S4 F4 HSH hR
      go_wp2_with fail
      refine HB.out.mono ?_
      rintro e w5 ⟨⟨aR, cR, rfl, hown⟩, F5⟩
      have HOW := Lib.hid (own_le hown HF4.out.size)
      have HF5 := Lib.hid (HF4.out.trans F5)
      clear hown F5 HB
      go_wp2_with fail
      refine bodyPost_ret (v := .tuple #[.slice aR R.length cR, .int .i64 0]) (by simp [results, Tryz.results11, go_sem]) rfl ⟨⟨aR, cR, ?_, ?_⟩, HF5.out⟩
      · rw [HR.out]
      · rw [← HR.out]
        exact HOW.out
end Go.Proofs.YthamenngccaijaaGreatDoor

namespace Go.Q
open Go Go.RowKit
open Go.Proofs.YthamenngccaijaaGreatDoor
theorem steps_get : ∀ (l : List Part) (last : Option (List UInt8)) (ws : List (List UInt8)), stepsS last l = some ws → ∀ (j : Nat) (p : Part), l[j]? = some p → ∃ x, ws[j]? = some x ∧ attrS p.o p.b = some x
  | [], _, _, _, j, p, hp => by simp at hp
  | q :: t, last, ws, h, j, p, hp => by
    obtain ⟨x, ws', h1, h2, rfl, -⟩ := steps_in h
    cases j with
    | zero =>
      simp only [List.getElem?_cons_zero, Option.some.injEq] at hp
      subst hp
      exact ⟨x, rfl, h1⟩
    | succ j =>
      simp only [List.getElem?_cons_succ] at hp
      obtain ⟨y, h3, h4⟩ := steps_get t _ _ h2 j p hp
      exact ⟨y, by simpa using h3, h4⟩
theorem rdn_get {l : List Part} {ws : List (List UInt8)} (h : rdnS l = some ws) : ws.length = l.length ∧ l.length ≤ 16 ∧ ∀ (j : Nat) (p : Part), l[j]? = some p → ∃ x, ws[j]? = some x ∧ attrS p.o p.b = some x := by
  unfold rdnS at h
  split at h
  · cases h
  · rename_i hl
    exact ⟨(steps_up l none ws h).2.2, by omega, steps_get l none ws h⟩
end Go.Q
namespace Go.Proofs.YthamenngccaijaaGreatDoor
open Go Go.RowKit Go.Q
set_option linter.unusedSimpArgs false
end Go.Proofs.YthamenngccaijaaGreatDoor

namespace Go.Q
open Go
theorem stepsS_last (y : Option (List UInt8)) (x : List UInt8) (p : Part) (t : List Part) (ws : List (List UInt8)) (ha : attrS p.o p.b = some x) (hc : ∀ z, y = some z → cmpS z x < 0) (h : stepsS (some x) t = some ws) : stepsS y (p :: t) = some (x :: ws) := by
  simp only [stepsS, ha, h]
  cases y with
  | none => rfl
  | some z =>
    have := hc z rfl
    simp only
    rw [if_neg (by simp; omega)]
    rfl
theorem rdnGo_back : ∀ (f : Nat) (out : List Part) (last l : List UInt8) (r : List Part), out.length ≤ 16 → l.length ≤ f → rdnGoS f out last l = .ok r → ∃ t ws, r = out ++ t ∧ stepsS (if out.length = 0 then none else some last) t = some ws ∧ ws.flatten = l ∧ r.length ≤ 16 ∧ r.length ≠ 0
  | f, out, last, [], r, ho, hl, h => by
    have h' : (if out.length = 0 then (.error 6 : Except Int (List Part)) else .ok out) = .ok r := by cases f <;> exact h
    split at h'
    · cases h'
    · rename_i h0
      cases h'
      exact ⟨[], [], by simp, rfl, rfl, ho, h0⟩
  | 0, out, last, x :: t, r, ho, hl, h => by simp at hl
  | f + 1, out, last, x :: t, r, ho, hl, h => by
    simp only [rdnGoS] at h
    split at h
    · cases h
    rename_i h16
    split at h
    · cases h
    rename_i p m hx
    obtain ⟨hb1, hb2, hb3, hb4⟩ := partRead_back hx
    split at h
    · cases h
    rename_i hc1
    split at h
    · cases h
    rename_i hc2
    obtain ⟨t', ws, rfl, h2, h3, h4, h5⟩ := rdnGo_back f (out ++ [p]) _ _ r (by rw [List.length_append, List.length_singleton]; omega) (by simp only [List.length_drop, List.length_cons] at hl ⊢; omega) h
    rw [if_neg (by simp)] at h2
    refine ⟨p :: t', (x :: t).take m :: ws, by simp, stepsS_last _ _ p t' ws hb1 (fun z hz => ?_) h2, ?_, h4, h5⟩
    · split at hz
      · cases hz
      · rename_i h0
        simp only [Option.some.injEq] at hz
        subst hz
        omega
    · rw [List.flatten_cons, h3, List.take_append_drop]
theorem rdnRead_back {l : List UInt8} {r : List Part} {k : Nat} (h : rdnReadS l = .ok (r, k)) : ∃ ws, rdnS r = some ws ∧ l.take k = rdnWhole ws ∧ k ≤ l.length ∧ 1 ≤ k := by
  have hk := rdnRead_len h
  unfold rdnReadS at h
  split at h
  · cases h
  rename_i x k' hx
  split at h
  · cases h
  rename_i r' hr
  simp only [Except.ok.injEq, Prod.mk.injEq] at h
  obtain ⟨rfl, rfl⟩ := h
  obtain ⟨h1, -, -, -⟩ := open_back hx tag17
  obtain ⟨t, ws, g1, g2, g3, g4, g5⟩ := rdnGo_back _ [] [] x _ (by simp) (Nat.le_refl _) hr
  rw [List.nil_append] at g1
  subst g1
  refine ⟨ws, ?_, by rw [h1, ← g3]; rfl, hk⟩
  unfold rdnS
  rw [if_neg (by omega)]
  exact g2
theorem nameGo_back : ∀ (f : Nat) (out : List (List Part)) (l : List UInt8) (n : List (List Part)), out.length ≤ 64 → l.length ≤ f → nameGoS f out l = .ok n → ∃ t, n = out ++ t ∧ (∀ r ∈ t, (rdnS r).isSome = true) ∧ (wholesN t).flatten = l ∧ n.length ≤ 64
  | f, out, [], n, ho, hl, h => by
    have h' : (.ok out : Except Int (List (List Part))) = .ok n := by cases f <;> exact h
    cases h'
    exact ⟨[], by simp, by simp, rfl, ho⟩
  | 0, out, x :: t, n, ho, hl, h => by simp at hl
  | f + 1, out, x :: t, n, ho, hl, h => by
    simp only [nameGoS] at h
    split at h
    · cases h
    rename_i h64
    split at h
    · cases h
    rename_i r k hx
    obtain ⟨ws, hb1, hb2, hb3, hb4⟩ := rdnRead_back hx
    obtain ⟨t', rfl, h2, h3, h4⟩ := nameGo_back f (out ++ [r]) _ n (by rw [List.length_append, List.length_singleton]; omega) (by simp only [List.length_drop, List.length_cons] at hl ⊢; omega) h
    refine ⟨r :: t', by simp, fun q hq => ?_, ?_, h4⟩
    · rcases List.mem_cons.1 hq with rfl | hq
      · rw [hb1]; rfl
      · exact h2 q hq
    · have e : wholesN (r :: t') = rdnWhole ws :: wholesN t' := by
        unfold wholesN
        rw [List.map_cons, hb1]
        rfl
      rw [e, List.flatten_cons, h3, ← hb2, List.take_append_drop]
theorem nameParse_back {l : List UInt8} {n : List (List Part)} (h : nameParseS l = .ok n) : nameOk n = true ∧ nameWhole n = l := by
  unfold nameParseS at h
  split at h
  · cases h
  rename_i n' k hr
  split at h
  · cases h
  rename_i hk
  simp only [Except.ok.injEq] at h
  subst h
  unfold nameReadS at hr
  split at hr
  · cases hr
  rename_i x k' hx
  split at hr
  · cases hr
  rename_i n2 hn
  simp only [Except.ok.injEq, Prod.mk.injEq] at hr
  obtain ⟨rfl, rfl⟩ := hr
  obtain ⟨h1, -, h3, -⟩ := open_back hx tag16
  obtain ⟨t, g1, g2, g3, g4⟩ := nameGo_back _ [] x _ (by simp) (Nat.le_refl _) hn
  rw [List.nil_append] at g1
  subst g1
  refine ⟨?_, ?_⟩
  · unfold nameOk
    rw [Bool.and_eq_true]
    exact ⟨decide_eq_true g4, List.all_eq_true.2 g2⟩
  · unfold nameWhole
    rw [g3, ← h1, List.take_of_length_le (by omega)]
end Go.Q

namespace Go.Q
open Go
section
variable {α : Type} (rd : List UInt8 → Except Int (α × Nat)) (mx : Nat)
def manyGo : Nat → List α → List UInt8 → Except Int (List α)
  | _, out, [] => .ok out
  | 0, _, _ :: _ => .error 3
  | f + 1, out, x :: t =>
    if out.length = mx then .error 2 else
    match rd (x :: t) with
    | .error e => .error e
    | .ok (g, k) => manyGo f (out ++ [g]) ((x :: t).drop k)
def manySt (out : List α) (l : List UInt8) : Except Int (List α) := manyGo rd mx l.length out l
variable {rd mx}
theorem manyGo_fuel (hp : ∀ l g k, rd l = .ok (g, k) → 1 ≤ k) : ∀ (f g : Nat) (out : List α) (l : List UInt8), l.length ≤ f → l.length ≤ g → manyGo rd mx f out l = manyGo rd mx g out l := by
  intro f
  induction f with
  | zero =>
    intro g out l h _
    obtain rfl : l = [] := List.length_eq_zero_iff.1 (by omega)
    cases g <;> rfl
  | succ f ih =>
    intro g out l h h2
    cases l with
    | nil => cases g <;> rfl
    | cons x t =>
      obtain ⟨g, rfl⟩ : ∃ g', g = g' + 1 := ⟨g - 1, by simp at h2; omega⟩
      simp only [manyGo]
      split
      · rfl
      cases hr : rd (x :: t) with
      | error e => rfl
      | ok yk =>
        obtain ⟨y, k⟩ := yk
        have := hp _ _ _ hr
        simp only [List.length_cons] at h h2
        exact ih g _ _ (by simp only [List.length_drop, List.length_cons]; omega) (by simp only [List.length_drop, List.length_cons]; omega)
theorem manySt_nil (out : List α) : manySt rd mx out [] = .ok out := rfl
theorem manySt_full {out : List α} {l : List UInt8} (h0 : l ≠ []) (h : out.length = mx) : manySt rd mx out l = .error 2 := by
  cases l with
  | nil => exact absurd rfl h0
  | cons x t => simp only [manySt, List.length_cons, manyGo, if_pos h]
theorem manySt_err {out : List α} {l : List UInt8} {e : Int} (h0 : l ≠ []) (h : out.length ≠ mx) (hp : rd l = .error e) : manySt rd mx out l = .error e := by
  cases l with
  | nil => exact absurd rfl h0
  | cons x t => simp only [manySt, List.length_cons, manyGo, if_neg h, hp]
theorem manySt_ok (hpos : ∀ l g k, rd l = .ok (g, k) → 1 ≤ k) {out : List α} {l : List UInt8} {r : α} {k : Nat} (h0 : l ≠ []) (h : out.length ≠ mx) (hp : rd l = .ok (r, k)) : manySt rd mx out l = manySt rd mx (out ++ [r]) (l.drop k) := by
  have hb := hpos _ _ _ hp
  cases l with
  | nil => exact absurd rfl h0
  | cons x t =>
    simp only [manySt, List.length_cons, manyGo, if_neg h, hp]
    exact manyGo_fuel hpos t.length ((x :: t).drop k).length _ _ (by simp only [List.length_drop, List.length_cons]; omega) (Nat.le_refl _)
theorem many_back {P : α → Prop} {wr : α → List UInt8} (hb : ∀ l g k, rd l = .ok (g, k) → P g ∧ l.take k = wr g ∧ 1 ≤ k) : ∀ (f : Nat) (out : List α) (l : List UInt8) (r : List α), out.length ≤ mx → l.length ≤ f → manySt rd mx out l = .ok r → ∃ t, r = out ++ t ∧ (∀ g ∈ t, P g) ∧ (t.map wr).flatten = l ∧ r.length ≤ mx ∧ (l ≠ [] → t ≠ [])
  | 0, out, l, r, ho, hf, h => by
    obtain rfl : l = [] := List.length_eq_zero_iff.1 (by omega)
    rw [manySt_nil] at h
    cases h
    exact ⟨[], by simp, by simp, rfl, ho, fun h => absurd rfl h⟩
  | f + 1, out, [], r, ho, hf, h => by
    rw [manySt_nil] at h
    cases h
    exact ⟨[], by simp, by simp, rfl, ho, fun h => absurd rfl h⟩
  | f + 1, out, x :: t, r, ho, hf, h => by
    by_cases hm : out.length = mx
    · rw [manySt_full (by simp) hm] at h
      cases h
    cases hr : rd (x :: t) with
    | error e => rw [manySt_err (by simp) hm hr] at h; cases h
    | ok yk =>
      obtain ⟨y, k⟩ := yk
      rw [manySt_ok (fun l g k h => (hb l g k h).2.2) (by simp) hm hr] at h
      obtain ⟨h1, h2, h3⟩ := hb _ _ _ hr
      obtain ⟨s, e1, e2, e3, e4, -⟩ := many_back hb f (out ++ [y]) _ r (by simp; omega) (by simp only [List.length_drop, List.length_cons] at hf ⊢; omega) h
      refine ⟨y :: s, by rw [e1]; simp, fun g hg => ?_, ?_, e4, fun _ => by simp⟩
      · rcases List.mem_cons.1 hg with rfl | hg
        · exact h1
        · exact e2 g hg
      · rw [List.map_cons, List.flatten_cons, e3, ← h2, List.take_append_drop]
end
end Go.Q

namespace Go.Q
open Go Go.RowKit
structure Gen where
  k : Int
  b : List UInt8
  n : List (List Part)
def madeG (k : Int) : Bool := k == 0 || k == 3 || k == 4 || k == 5
def tagAt (k : Int) (m : Bool) : Tag := ⟨2, k, m⟩
def genTag (k : Int) : Tag := tagAt k (madeG k)
def plainB (b : List UInt8) : Bool := decide (0 < b.length) && b.all (fun c => decide (c.toNat ≤ 127))
def wholesB (b : List UInt8) : Bool := match allS b with | .ok ls => decide (0 < ls.length) | .error _ => false
def oidB (b : List UInt8) : Bool := match oidParseS b with | .ok _ => true | .error _ => false
def contB (k : Int) (b : List UInt8) : Bool :=
  if k = 1 ∨ k = 2 ∨ k = 6 then plainB b else if k = 7 then decide (b.length = 4 ∨ b.length = 16) else if k = 8 then oidB b else if k = 0 ∨ k = 3 ∨ k = 5 then wholesB b else false
def genOk (g : Gen) : Bool := if g.k = 4 then decide (g.b.length = 0) && nameOk g.n else decide (g.n.length = 0) && contB g.k g.b
def genBody (g : Gen) : List UInt8 := if g.k = 4 then nameWhole g.n else g.b
def genWhole (g : Gen) : List UInt8 := wrapS (genTag g.k) (genBody g)
def fewG (g : Gen) : Prop := g.b.length ≤ 10000000 ∧ ∀ r ∈ g.n, fewB r
def genReadS (l : List UInt8) : Except Int (Gen × Nat) :=
  match readS l with
  | .error e => .error e
  | .ok (t, n, k) =>
    if t.cls ≠ 2 ∨ 8 < t.num ∨ t.made ≠ madeG t.num then .error 4 else
    if l.length - k < n then .error 3 else
    if t.num = 4 then (match nameParseS ((l.drop k).take n) with
      | .error e => .error e
      | .ok m => .ok (⟨4, [], m⟩, k + n)) else
    if contB t.num ((l.drop k).take n) then .ok (⟨t.num, (l.drop k).take n, []⟩, k + n) else .error 6
def genSt (out : List Gen) (l : List UInt8) : Except Int (List Gen) := manySt genReadS 10000 out l
def genAllS (l : List UInt8) : Except Int (List Gen) := if l = [] then .error 6 else genSt [] l
def genListS (l : List UInt8) : Except Int (List Gen × Nat) :=
  match openS (tagOf 16) l with
  | .error e => .error e
  | .ok (y, k) => match genAllS y with
    | .error e => .error e
    | .ok gs => .ok (gs, k)
theorem cont_kind {k : Int} {b : List UInt8} (h : contB k b = true) : 0 ≤ k ∧ k ≤ 8 ∧ k ≠ 4 := by
  unfold contB at h
  split at h
  · omega
  split at h
  · omega
  split at h
  · omega
  split at h
  · omega
  · cases h
theorem gen_kind {g : Gen} (h : genOk g = true) : 0 ≤ g.k ∧ g.k ≤ 8 := by
  unfold genOk at h
  split at h
  · omega
  · rw [Bool.and_eq_true] at h
    have := cont_kind h.2
    omega
theorem genTag_good {k : Int} (h0 : 0 ≤ k) (h1 : k ≤ 8) : tagGood (genTag k) := ⟨⟨show (0 : Int) ≤ 2 by decide, show (2 : Int) < 4 by decide⟩, h0, show k < 31 by omega⟩
theorem readTag_num {l : List UInt8} {t : Tag} {k : Nat} (h : readTagS l = .ok (t, k)) : 0 ≤ t.num := by
  cases l with
  | nil => simp [readTagS] at h
  | cons x r =>
    simp only [readTagS] at h
    split at h
    · simp only [Except.ok.injEq, Prod.mk.injEq] at h
      obtain ⟨rfl, -⟩ := h
      exact Int.emod_nonneg _ (by decide)
    · split at h
      · cases h
      · simp only [Except.ok.injEq, Prod.mk.injEq] at h
        obtain ⟨rfl, -⟩ := h
        exact Int.natCast_nonneg _
theorem genRead_err {l : List UInt8} {e : Int} (h : readS l = .error e) : genReadS l = .error e := by unfold genReadS; rw [h]
theorem genRead_tag {l : List UInt8} {t : Tag} {n k : Nat} (h : readS l = .ok (t, n, k)) (ht : t.cls ≠ 2 ∨ 8 < t.num ∨ t.made ≠ madeG t.num) : genReadS l = .error 4 := by unfold genReadS; rw [h]; exact if_pos ht
theorem genRead_end {l : List UInt8} {t : Tag} {n k : Nat} (h : readS l = .ok (t, n, k)) (ht : ¬ (t.cls ≠ 2 ∨ 8 < t.num ∨ t.made ≠ madeG t.num)) (hn : l.length - k < n) : genReadS l = .error 3 := by unfold genReadS; rw [h]; simp only; rw [if_neg ht, if_pos hn]
theorem genRead_dir {l : List UInt8} {t : Tag} {n k : Nat} (h : readS l = .ok (t, n, k)) (ht : ¬ (t.cls ≠ 2 ∨ 8 < t.num ∨ t.made ≠ madeG t.num)) (hn : ¬ l.length - k < n) (h4 : t.num = 4) : genReadS l = (match nameParseS ((l.drop k).take n) with | .error e => .error e | .ok m => .ok (⟨4, [], m⟩, k + n)) := by unfold genReadS; rw [h]; simp only; rw [if_neg ht, if_neg hn, if_pos h4]
theorem genRead_on {l : List UInt8} {t : Tag} {n k : Nat} (h : readS l = .ok (t, n, k)) (ht : ¬ (t.cls ≠ 2 ∨ 8 < t.num ∨ t.made ≠ madeG t.num)) (hn : ¬ l.length - k < n) (h4 : ¬ t.num = 4) : genReadS l = if contB t.num ((l.drop k).take n) then .ok (⟨t.num, (l.drop k).take n, []⟩, k + n) else .error 6 := by unfold genReadS; rw [h]; simp only; rw [if_neg ht, if_neg hn, if_neg h4]
theorem genRead_back (l : List UInt8) (g : Gen) (k : Nat) (h : genReadS l = .ok (g, k)) : (genOk g = true ∧ (genBody g).length ≤ l.length ∧ (genBody g).length ≤ 16777216) ∧ l.take k = genWhole g ∧ 1 ≤ k ∧ k ≤ l.length := by
  cases hr : readS l with
  | error e => rw [genRead_err hr] at h; cases h
  | ok tnk =>
    obtain ⟨t, n, j⟩ := tnk
    by_cases ht : t.cls ≠ 2 ∨ 8 < t.num ∨ t.made ≠ madeG t.num
    · rw [genRead_tag hr ht] at h; cases h
    by_cases hn : l.length - j < n
    · rw [genRead_end hr ht hn] at h; cases h
    obtain ⟨i, m, hi, -, -⟩ := readS_parts hr
    have h0 := readTag_num hi
    obtain ⟨h1, h2, h3⟩ : t.cls = 2 ∧ t.num ≤ 8 ∧ t.made = madeG t.num := ⟨Classical.byContradiction fun h => ht (.inl h), Classical.byContradiction fun h => ht (.inr (.inl (by omega))), Classical.byContradiction fun h => ht (.inr (.inr h))⟩
    have htt : t = genTag t.num := by
      obtain ⟨c, x, y⟩ := t
      simp only at h1 h2 h3
      rw [h1, h3]
      rfl
    have hg : tagGood t := by rw [htt]; exact genTag_good h0 h2
    obtain ⟨b1, b2, b3⟩ := readS_back hr hg
    have hp := readS_pos hr
    have hl : ((l.drop j).take n).length = n := by rw [List.length_take, List.length_drop]; omega
    have hw : l.take (j + n) = wrapS t ((l.drop j).take n) := by
      rw [take_both, b1, wrapS, hl]
      rfl
    by_cases h4 : t.num = 4
    · rw [genRead_dir hr ht hn h4] at h
      cases hq : nameParseS ((l.drop j).take n) with
      | error e => rw [hq] at h; cases h
      | ok m =>
        rw [hq] at h
        simp only [Except.ok.injEq, Prod.mk.injEq] at h
        obtain ⟨rfl, rfl⟩ := h
        obtain ⟨c1, c2⟩ := nameParse_back hq
        have hb : genBody ⟨4, [], m⟩ = (l.drop j).take n := by rw [← c2]; rfl
        refine ⟨⟨by simp [genOk, c1], by rw [hb, hl]; omega, by rw [hb, hl]; omega⟩, ?_, by omega, by omega⟩
        unfold genWhole
        rw [hb, hw, htt, h4]
    · rw [genRead_on hr ht hn h4] at h
      split at h
      · rename_i hc
        simp only [Except.ok.injEq, Prod.mk.injEq] at h
        obtain ⟨rfl, rfl⟩ := h
        have hb : genBody ⟨t.num, (l.drop j).take n, []⟩ = (l.drop j).take n := if_neg h4
        refine ⟨⟨by simp [genOk, h4, hc], by rw [hb, hl]; omega, by rw [hb, hl]; omega⟩, ?_, by omega, by omega⟩
        unfold genWhole
        rw [hb, hw, ← htt]
      · cases h
theorem genRead_pos (l : List UInt8) (g : Gen) (k : Nat) (h : genReadS l = .ok (g, k)) : 1 ≤ k := (genRead_back l g k h).2.2.1
theorem genAll_back {l : List UInt8} {gs : List Gen} (h : genAllS l = .ok gs) : (∀ g ∈ gs, genOk g = true ∧ (genBody g).length ≤ 16777216) ∧ (gs.map genWhole).flatten = l ∧ gs ≠ [] ∧ gs.length ≤ 10000 := by
  unfold genAllS at h
  split at h
  · cases h
  rename_i h0
  obtain ⟨t, h1, h2, h3, h4, h5⟩ := many_back (P := fun g => genOk g = true ∧ (genBody g).length ≤ 16777216) (wr := genWhole) (fun l g k h => by
    obtain ⟨⟨a, -, b⟩, c, d, -⟩ := genRead_back l g k h
    exact ⟨⟨a, b⟩, c, d⟩) l.length [] l gs (by simp) (Nat.le_refl _) h
  rw [List.nil_append] at h1
  subst h1
  exact ⟨h2, h3, h5 h0, h4⟩
def lowB (c : UInt8) : UInt8 := if 65 ≤ c.toNat ∧ c.toNat ≤ 90 then c + 32 else c
def lowerS (l : List UInt8) : List UInt8 := l.map lowB
def labelC (c : UInt8) : Bool := decide ((97 ≤ c.toNat ∧ c.toNat ≤ 122) ∨ (48 ≤ c.toNat ∧ c.toNat ≤ 57) ∨ c.toNat = 45 ∨ c.toNat = 95)
def labelB (l : List UInt8) : Bool := decide (1 ≤ l.length ∧ l.length ≤ 63) && (lowerS l).all labelC
def dotS (l : List UInt8) : List UInt8 := if l.getLast? = some 46 then l.dropLast else l
def hostS (l : List UInt8) : Option (List UInt8) := if 253 < (dotS l).length then none else if (cutAt 46 (dotS l)).all labelB then some (lowerS (dotS l)) else none
def lastTo (c : UInt8) (l : List UInt8) : Nat → Int
  | 0 => -1
  | j + 1 => if l[j]? = some c then (j : Int) else lastTo c l j
def lastS (c : UInt8) (l : List UInt8) : Int := lastTo c l l.length
theorem lastTo_lt (c : UInt8) (l : List UInt8) : ∀ j, -1 ≤ lastTo c l j ∧ lastTo c l j < j ∧ lastTo c l j < l.length
  | 0 => by show (-1 : Int) ≤ -1 ∧ (-1 : Int) < ((0 : Nat) : Int) ∧ (-1 : Int) < (l.length : Int); omega
  | j + 1 => by
    obtain ⟨h1, h2, h3⟩ := lastTo_lt c l j
    unfold lastTo
    split
    · rename_i h
      have := (List.getElem?_eq_some_iff.1 h).1
      omega
    · omega
def mailS (l : List UInt8) : List UInt8 := if lastS 64 l < 0 then l else l.take (lastS 64 l).toNat ++ lowerS (l.drop (lastS 64 l).toNat)
def meanS (g : Gen) : List UInt8 := if g.k = 4 then nameKeyS g.n else if g.k = 2 then (match hostS g.b with | some h => h | none => 35 :: hexS g.b) else if g.k = 1 then mailS g.b else hexS g.b
def genKeyS (g : Gen) : List UInt8 := Lib.itoa g.k ++ meanS g
def genSameS (a b : Gen) : Bool := genOk a && genOk b && decide (genKeyS a = genKeyS b)
def genMeetS (a b : List Gen) : Bool := a.any fun x => b.any fun y => genSameS x y
end Go.Q

namespace Go.Q
open Go
def cutPart (p : Part) : Part := ⟨p.o.take 40, p.b.take 200⟩
def cutStep (l : List Part) : List Part := (l.take 20).map cutPart
def cutName (n : List (List Part)) : List (List Part) := (n.take 70).map cutStep
def underS (n m : List (List Part)) : Bool := nameOk n && (decide (m.length ≤ n.length) && nameSameS (n.take m.length) m)
end Go.Q

namespace Go.Q
open Go Go.RowKit
theorem Ints.cut {w : World} {a : Option Addr} {c : Nat} {l : List Int} (h : Ints w (.slice a l.length c) l) (N m : Nat) (hm : m = min l.length N) : Ints w (.slice a m c) (l.take N) := by
  obtain ⟨a0, c0, he, h1, h2, -⟩ := Ints.form h
  simp only [Value.slice.injEq] at he
  obtain ⟨rfl, -, rfl⟩ := he
  have := Vals.sub h 0 m (Nat.zero_le _) (by omega) a c (fun _ b o e => by simpa using e) (by omega) h2
  simp only [Nat.sub_zero, List.drop_zero] at this
  have e : l.take N = l.take m := by
    rw [hm, ← List.take_take, List.take_of_length_le (l := l.take N) (by rw [List.length_take]; omega)]
  unfold Ints intCells
  rw [e, List.map_take]
  exact this
theorem Vals.cut {w : World} {a : Option Addr} {c : Nat} {l : List UInt8} (h : Bytes w (.slice a l.length c) l) (N m : Nat) (hm : m = min l.length N) : Bytes w (.slice a m c) (l.take N) := by
  obtain ⟨a0, c0, he, h1, h2, -⟩ := Vals.form h
  simp only [Value.slice.injEq] at he
  obtain ⟨rfl, -, rfl⟩ := he
  have := Vals.sub h 0 m (Nat.zero_le _) (by omega) a c (fun _ b o e => by simpa using e) (by omega) h2
  simp only [Nat.sub_zero, List.drop_zero] at this
  have e : l.take N = l.take m := by
    rw [hm, ← List.take_take, List.take_of_length_le (l := l.take N) (by rw [List.length_take]; omega)]
  unfold Bytes Lib.byteCells
  rw [e, List.map_take]
  exact this
end Go.Q
namespace Go.Proofs.YthamenngccaijaaGreatDoor
open Go Go.RowKit Go.Q
set_option linter.unusedSimpArgs false
end Go.Proofs.YthamenngccaijaaGreatDoor

namespace Go.Q
open Go Go.RowKit
theorem Kept.weaken {R : World → Prop} {K K' : Nat → Prop} {w : World} (h : Kept R K w) (hK : ∀ k, K' k → K k) : Kept R K' w := fun W f => h W (f.mono (fun k _ hs => hK k hs))
theorem own_kept {w : World} {base n : Nat} {e : TypeId} {v : Value} {xs : List Value} (h : w.ownsRow base e 1 v n xs) (K : Nat → Prop) (hK : ∀ k, K k → k < base) : Kept (fun W => Vals W v xs) K w := fun W f =>
  (Vals.of_own (Go.Proofs.YthamenngccaijaaGreatDoor.ownsRow_fr h f (fun k hk hs => by have := ((Vals.of_own h).2 k hk).1; have := hK k hs; omega))).1
end Go.Q

namespace Go.Q
open Go Go.RowKit
def FRow (K : Nat → Prop) (t : TypeId) (w : World) (base : Nat) (v : Value) (n : List (List Part)) : Prop :=
  ∃ us : List Value, w.ownsRow base t 1 v n.length us ∧ us.length = n.length ∧ ∀ (i : Nat) (u : Value) (r : List Part), us[i]? = some u → n[i]? = some r → Kept (fun W => Attrs W u r) (fun k => v.ownBlock = some k ∨ K k) w
theorem FRow.old {K : Nat → Prop} {t : TypeId} {w w' : World} {base : Nat} {v : Value} {n : List (List Part)} (h : FRow K t w base v n) (f : Fr (fun _ => False) w w') : FRow K t w' base v n := by
  obtain ⟨us, h1, h2, h3⟩ := h
  exact ⟨us, Go.Proofs.YthamenngccaijaaGreatDoor.ownsRow_fr h1 f (fun _ _ h => h), h2, fun i u r hu hr => (h3 i u r hu hr).old f⟩
theorem FRow.keep {K : Nat → Prop} {t : TypeId} {w : World} {base : Nat} {v : Value} {n : List (List Part)} (h : FRow K t w base v n) : ∀ k, v.ownBlock = some k → base ≤ k ∧ k < w.heap.size := by
  obtain ⟨us, h1, -⟩ := h
  exact (Vals.of_own h1).2
theorem FRow.nil (K : Nat → Prop) (t : TypeId) (w : World) (base : Nat) : FRow K t w base (.slice none 0 0) [] := ⟨[], ⟨rfl, .inl ⟨rfl, rfl⟩⟩, rfl, fun i u r h => by simp at h⟩
theorem FRow.add {P : Program} {K : Nat → Prop} {t s : TypeId} (hu0 : P.underlying s = some (.slice t)) (hinf : Info P t (.slice none 0 0) 1 24) {w wa : World} {base : Nat} {v : Value} {n : List (List Part)} (h : FRow K t w base v n) (hb : base ≤ w.heap.size) (F1 : Fr (fun _ => False) w wa) (g : Nat) (u : Value) (r : List Part) (BX : Blk wa g t #[u]) (hu1 : u.oneCell' = true) (hu : Kept (fun W => Attrs W u r) (fun k => v.ownBlock = some k ∨ K k) w) (hn : n.length ≤ 109951162777) :
    ∃ a c w', (Builtin.append_ #[s, s] s #[v, .slice (some ⟨g, 0, none⟩) 1 1]).run P wa = .ok (.slice a (n.length + 1) c) w' ∧ FRow K t w' base (.slice a (n.length + 1) c) (n ++ [r]) ∧ Fr (fun k => v.ownBlock = some k) w w' := by
  obtain ⟨us, h1, h2, h3⟩ := h
  obtain ⟨a, c, w', hrun, h4, F2, h5⟩ := add_gen hu0 hinf rfl (by decide) (by decide) h1 hb F1 g [u] rfl BX (by simpa using hu1) hn
  have hst : ∀ (x : Value) (q : List Part), Kept (fun W => Attrs W x q) (fun k => v.ownBlock = some k ∨ K k) w → Kept (fun W => Attrs W x q) (fun k => (Value.slice a (n.length + 1) c).ownBlock = some k ∨ K k) w' := fun x q hq =>
    hq.step F2 (fun _ _ h => .inl h) (fun k hk => by
      rcases hk with h | h
      · rcases h5 k h with h | h
        · exact .inl (.inl h)
        · exact .inr h
      · exact .inl (.inr h))
  refine ⟨a, c, w', hrun, ⟨us ++ [u], ?_, by simp [h2], fun i x s hx hs => ?_⟩, F2⟩
  · rw [List.length_append]
    exact h4
  · rcases Nat.lt_or_ge i us.length with hi | hi
    · rw [List.getElem?_append_left hi] at hx
      rw [List.getElem?_append_left (by omega)] at hs
      exact hst _ _ (h3 i x s hx hs)
    · obtain rfl : i = us.length := by
        have := (List.getElem?_eq_some_iff.1 hx).1
        simp at this
        omega
      rw [List.getElem?_append_right (Nat.le_refl _)] at hx
      rw [List.getElem?_append_right (by omega)] at hs
      simp at hx
      simp [h2] at hs
      subst hx; subst hs
      exact hst _ _ hu
end Go.Q
namespace Go.Proofs.YthamenngccaijaaGreatDoor
open Go Go.RowKit Go.Q
set_option linter.unusedSimpArgs false
end Go.Proofs.YthamenngccaijaaGreatDoor

namespace Go.Q
open Go Go.RowKit
def RGen (W : World) (cs : List Value) (g : Gen) : Prop := ∃ vb vn, cs = [.int .i64 g.k, vb, vn] ∧ Bytes W vb g.b ∧ NameAt W vn g.n
def GenAt (W : World) (u : Value) (g : Gen) : Prop := ∃ vb vn, u = .agg #[.int .i64 g.k, vb, vn] ∧ Bytes W vb g.b ∧ NameAt W vn g.n
abbrev Gens (W : World) (v : Value) (l : List Gen) : Prop := LAt 3 RGen W v l
theorem RGen.old (w w' : World) (cs : List Value) (g : Gen) (h : RGen w cs g) (f : Fr (fun _ => False) w w') : RGen w' cs g := by
  obtain ⟨vb, vn, rfl, h1, h2⟩ := h
  exact ⟨vb, vn, rfl, h1.old f, h2.old f⟩
theorem GenAt.old {w w' : World} {u : Value} {g : Gen} (h : GenAt w u g) (f : Fr (fun _ => False) w w') : GenAt w' u g := by
  obtain ⟨vb, vn, rfl, h1, h2⟩ := h
  exact ⟨vb, vn, rfl, h1.old f, h2.old f⟩
theorem Gens.old {w w' : World} {v : Value} {l : List Gen} (h : Gens w v l) (f : Fr (fun _ => False) w w') : Gens w' v l := LAt.old RGen.old h f
theorem GenAt.form {w : World} {u : Value} {g : Gen} (h : GenAt w u g) : ∃ ab cb an cn, u = .agg #[.int .i64 g.k, .slice ab g.b.length cb, .slice an g.n.length cn] ∧ Bytes w (.slice ab g.b.length cb) g.b ∧ NameAt w (.slice an g.n.length cn) g.n := by
  obtain ⟨vb, vn, rfl, h1, h2⟩ := h
  obtain ⟨ab, cb, rfl, -⟩ := h1.form
  have h3 := h2
  obtain ⟨an, cn, rfl, -⟩ := h3
  exact ⟨ab, cb, an, cn, rfl, h1, h2⟩
theorem Gens.get {w : World} {a : Option Addr} {n c : Nat} {l : List Gen} (h : Gens w (.slice a n c) l) {i : Nat} {g : Gen} (hi : l[i]? = some g) : ∃ b o ab cb an cn, a = some ⟨b, o, none⟩ ∧ n = l.length ∧ GenAt w (.agg #[.int .i64 g.k, .slice ab g.b.length cb, .slice an g.n.length cn]) g ∧ w.cell? ⟨b, o + i * 3, none⟩ = some (.int .i64 g.k) ∧ w.cell? ⟨b, o + i * 3 + 1, none⟩ = some (.slice ab g.b.length cb) ∧ w.cell? ⟨b, o + i * 3 + 2, none⟩ = some (.slice an g.n.length cn) := by
  obtain ⟨a0, c0, he, h1, h2, h3⟩ := h
  simp only [Value.slice.injEq] at he
  obtain ⟨rfl, rfl, rfl⟩ := he
  have hil := (List.getElem?_eq_some_iff.1 hi).1
  obtain ⟨b, o, rfl, hy⟩ := h3 (by omega)
  obtain ⟨cs, -, e2, vb, vn, rfl, g1, g2⟩ := hy i g hi
  obtain ⟨ab, cb, rfl, -⟩ := g1.form
  have g3 := g2
  obtain ⟨an, cn, rfl, -⟩ := g3
  rw [Nat.mul_comm] at e2
  exact ⟨b, o, ab, cb, an, cn, rfl, rfl, ⟨_, _, rfl, g1, g2⟩, e2 0 _ rfl, e2 1 _ rfl, e2 2 _ rfl⟩
theorem NameAt.cut {w : World} {a : Option Addr} {c : Nat} {n : List (List Part)} (h : NameAt w (.slice a n.length c) n) (N m : Nat) (hm : m = min n.length N) : NameAt w (.slice a m c) (n.take N) := by
  obtain ⟨a0, c0, he, h1, h2, h3⟩ := h
  simp only [Value.slice.injEq] at he
  obtain ⟨rfl, -, rfl⟩ := he
  have hl : (n.take N).length = m := by rw [List.length_take]; omega
  refine ⟨a, c, by rw [hl], by omega, h2, fun h0 => ?_⟩
  obtain ⟨b, o, rfl, hy⟩ := h3 (by omega)
  refine ⟨b, o, rfl, fun i r hr => hy i r ?_⟩
  rw [List.getElem?_take] at hr
  split at hr
  · exact hr
  · cases hr
theorem NameAt.shape {w : World} {v : Value} {n : List (List Part)} (h : NameAt w v n) : ∃ a c, v = .slice a n.length c := by
  obtain ⟨a, c, rfl, -⟩ := h
  exact ⟨a, c, rfl⟩
theorem FRow.at {K : Nat → Prop} {t : TypeId} {w : World} {base : Nat} {v : Value} {n : List (List Part)} (h : FRow K t w base v n) : NameAt w v n := by
  obtain ⟨us, h1, h2, h3⟩ := h
  obtain ⟨a, cap, he, hc, hm, hx⟩ := (Vals.of_own h1).1
  rw [h2] at he hc hx
  refine ⟨a, cap, he, hc, hm, fun h0 => ?_⟩
  obtain ⟨b, o, rfl, hy⟩ := hx h0
  refine ⟨b, o, rfl, fun i r hr => ?_⟩
  have hi : i < us.length := by rw [h2]; exact (List.getElem?_eq_some_iff.1 hr).1
  have hu : us[i]? = some us[i] := List.getElem?_eq_getElem hi
  exact ⟨_, hy i _ hu, (h3 i _ r hu hr).now⟩
theorem FRow.kept {K : Nat → Prop} {t : TypeId} {w : World} {base : Nat} {v : Value} {n : List (List Part)} (h : FRow K t w base v n) (K' : Nat → Prop) (hK : ∀ k, K' k → K k ∧ k < base) : Kept (fun W => NameAt W v n) K' w := fun W f => by
  obtain ⟨us, h1, h2, h3⟩ := h
  have hk := (Vals.of_own h1).2
  refine FRow.at (K := K') (t := t) (base := base) ⟨us, Go.Proofs.YthamenngccaijaaGreatDoor.ownsRow_fr h1 f (fun k hk2 hs => by have := (hk k hk2).1; have := (hK k hs).2; omega), h2, fun i u r hu hr => (h3 i u r hu hr).step f (fun k _ hs => .inr (hK k hs).1) (fun k hs => ?_)⟩
  rcases hs with hs | hs
  · exact .inl (.inl hs)
  · exact .inl (.inr (hK k hs).1)
end Go.Q

namespace Go.Proofs.YthamenngccaijaaGreatDoor
open Go Go.RowKit Go.Q
set_option linter.unusedSimpArgs false
def NewCur (w w' : World) (g : Nat) (l : List UInt8) : Prop := w.heap.size ≤ g ∧ CurAt w' g (fun k => k < w.heap.size) l 0
set_option maxRecDepth 20000 in
theorem sub_ok {w : World} {c : Nat} {K : Nat → Prop} {bs : List UInt8} {i : Nat} (h : CurAt w c K bs i) (n : Nat) (hn : n ≤ bs.length - i) :
    Calls Tryz.prog 128 #[pt c, .int .i64 n] w fun e w' => ∃ g, e = .returned (.tuple #[pt g, .int .i64 0]) ∧ NewCur w w' g ((bs.drop i).take n) ∧ CurAt w' c K bs (i + n) ∧ Fr (fun k => k = c) w w' := by
  have hsm := h.small
  have hle := h.le
  have hcl := h.lt
  obtain ⟨l, hl⟩ : ∃ l, l = (bs.drop i).take n := ⟨_, rfl⟩
  have hll : l.length = n := by rw [hl, List.length_take, List.length_drop]; omega
  have HT := Lib.hid (take_ok h n hn)
  rw [← hl] at HT ⊢
  have HLL := Lib.hid hll
  clear hl hll h
  go_enter Tryz.func128, Tryz.ntmps128
  go_wp2_with fail
  refine HT.out.mono ?_
  rintro e w1 ⟨v, rfl, ho, C1, F1⟩
  have hv := Vals.of_own ho
  have HV := Lib.hid hv
  obtain ⟨a, m, cap, rfl, rfl⟩ := own_shape ho
  have HC1 := Lib.hid C1
  have HF1 := Lib.hid F1
  have hs1 := F1.size
  clear HT ho hv C1 F1
  go_wp2_with fail
  have F2 : Fr (fun _ => False) w1 (w1.alloc (.cells #[.slice a m cap, .int .i64 0] 118)) := (Fr.refl w1).alloc _
  refine bodyPost_ret (v := .tuple #[pt w1.heap.size, .int .i64 0]) (by simp [results, Tryz.results128, go_sem]) rfl ⟨_, rfl, ⟨hs1, _, Blk.new w1 _ _, HV.out.1.old F2, Nat.zero_le _, by rw [HLL.out]; omega, by omega, fun _ k hk e => ?_⟩, HC1.out.old F2, HF1.out.trans (F2.mono (fun _ _ h => h.elim))⟩
  have := HV.out.2 k hk
  omega
theorem sub_end {w : World} {c : Nat} {K : Nat → Prop} {bs : List UInt8} {i : Nat} (h : CurAt w c K bs i) (n : Nat) (hn : bs.length - i < n) :
    Calls Tryz.prog 128 #[pt c, .int .i64 n] w fun e w' => e = .returned (.tuple #[.pointer none, .int .i64 3]) ∧ Fr (fun _ => False) w w' := by
  have HT := Lib.hid (take_end h n hn)
  clear h
  go_enter Tryz.func128, Tryz.ntmps128
  go_wp2_with fail
  refine HT.out.mono ?_
  rintro e w1 ⟨rfl, F1⟩
  go_wp2_with fail
  exact bodyPost_ret (v := .tuple #[.pointer none, .int .i64 3]) (by simp [results, Tryz.results128, go_sem]) rfl ⟨rfl, F1⟩
theorem NewCur.up {w w1 w' : World} {g : Nat} {l : List UInt8} (h : NewCur w1 w' g l) (hs : w.heap.size ≤ w1.heap.size) : NewCur w w' g l :=
  ⟨Nat.le_trans hs h.1, h.2.step (Fr.refl w') (S := fun _ => False) (fun _ _ h => h.elim) (fun _ hk => .inl (Nat.lt_of_lt_of_le hk hs))⟩
set_option maxRecDepth 20000 in
theorem rest_any {w : World} {c : Nat} {K : Nat → Prop} {bs : List UInt8} {i : Nat} (h : CurAt w c K bs i) :
    Calls Tryz.prog 276 #[pt c] w fun e w' => ∃ v, e = .returned v ∧ w'.ownsRow w.heap.size 5 1 v (bs.length - i) (Lib.byteCells (bs.drop i)) ∧ CurAt w' c K bs bs.length ∧ Fr (fun k => k = c) w w' := by
  have hsm := h.small
  have hle := h.le
  have H := Lib.hid h
  have hcut := Lib.hid (fun w' (C : CurAt w' c K bs i) => cut_any C i (bs.length - i) (by omega))
  have e1 : (i : Int) + ((bs.length - i : Nat) : Int) = (bs.length : Int) := by omega
  rw [e1] at hcut
  have e2 : (bs.drop i).take (bs.length - i) = bs.drop i := List.take_of_length_le (by rw [List.length_drop]; omega)
  rw [e2] at hcut
  clear h e1 e2
  go_enter Tryz.func276, Tryz.ntmps276
  go_upto_region 3 with fail
  have C1 := H.out.old (Fr.refl w).drew
  have HC := Lib.hid C1
  obtain ⟨sl, B, -⟩ := C1
  have F2 : Fr (fun _ => False) w w.drew := (Fr.refl w).drew
  have hcl := H.out.lt
  clear H
  go_region_held3 (fun w' => ∀ j, w'.cell? ⟨c, j, none⟩ = (#[sl, .int .i64 i] : Array Value)[j]?) (exact B.cell) (first
    | (go_at_call 111; refine (size_any HC.out).mono ?_; rintro e w' ⟨rfl, rfl⟩)
    | (go_at_call 72; refine (hcut.out _ HC.out).mono ?_; rintro e w' ⟨v, rfl, ho, F⟩; replace B := B.fr F (fun h => h); have C3 := HC.out.old F))
  have HO := Lib.hid ho
  have HC3 := Lib.hid C3
  have e1 := B.cell 1
  have f1 := B.frozen 1
  simp at e1
  have hv := Lib.hid (Vals.of_own ho)
  clear ho C3
  go_wp2_with fail
  refine (size_any HC3.out).mono ?_
  rintro e w4 ⟨rfl, rfl⟩
  go_wp2_with fail
  obtain ⟨C4, F4⟩ := HC3.out.set bs.length (Nat.le_refl _)
  have hne : ∀ k, v.ownBlock = some k → k ≠ c := fun k hk e => by
    have h1 := (hv.out.2 k hk).1
    have h2 := HC.out.lt
    omega
  go_ret
  exact ⟨v, rfl, own_le (ownsRow_fr HO.out F4 (fun k hk e => hne k hk e)) F2.size, C4, ((F2.trans F).mono (fun _ _ h => h.elim)).trans F4⟩
end Go.Proofs.YthamenngccaijaaGreatDoor

namespace Go.Q
open Go Go.RowKit
theorem openS_err1 {T : Tag} {l : List UInt8} {x : Int} (h : readS l = .error x) : openS T l = .error x := by unfold openS; rw [h]
theorem openS_tag {T u : Tag} {l : List UInt8} {n k : Nat} (h : readS l = .ok (u, n, k)) (hu : u ≠ T) : openS T l = .error 4 := by unfold openS; rw [h]; exact if_pos hu
theorem openS_end {T : Tag} {l : List UInt8} {n k : Nat} (h : readS l = .ok (T, n, k)) (hn : l.length - k < n) : openS T l = .error 3 := by unfold openS; rw [h]; simp only; rw [if_neg (by simp), if_pos hn]
theorem openS_ok {T : Tag} {l : List UInt8} {n k : Nat} (h : readS l = .ok (T, n, k)) (hn : ¬ l.length - k < n) : openS T l = .ok ((l.drop k).take n, k + n) := by unfold openS; rw [h]; simp only; rw [if_neg (by simp), if_neg hn]
theorem openS_nz {T : Tag} {l : List UInt8} {x : Int} (h : openS T l = .error x) : x ≠ 0 := by
  unfold openS at h
  split at h
  · rename_i hr
    cases h
    exact Go.Proofs.YthamenngccaijaaGreatDoor.readS_err hr
  · split at h
    · cases h; decide
    · split at h
      · cases h; decide
      · cases h
end Go.Q
namespace Go.Proofs.YthamenngccaijaaGreatDoor
open Go Go.RowKit Go.Q
set_option linter.unusedSimpArgs false
def OpenOut1 (w w' : World) (c : Nat) (K : Nat → Prop) (bs : List UInt8) (p : Nat) (r : Except Int (List UInt8 × Nat)) (e : Ending) : Prop :=
  match r with
  | .ok (y, k) => ∃ g, e = .returned (.tuple #[pt g, .int .i64 0]) ∧ NewCur w w' g y ∧ CurAt w' c K bs (p + k)
  | .error x => e = .returned (.tuple #[.pointer none, .int .i64 x]) ∧ ∃ q, p ≤ q ∧ CurAt w' c K bs q
set_option maxRecDepth 20000 in
set_option maxHeartbeats 2000000 in
theorem open1_any {w : World} {c : Nat} {K : Nat → Prop} {bs : List UInt8} {p : Nat} (h : CurAt w c K bs p) (T : Tag) (bx bt : Nat) (B : Blk w bx 50 #[pt c]) (BT : Blk w bt 97 #[.int .i64 T.cls, .int .i64 T.num, .bool T.made]) (hbx : bx ≠ c) (hbt : bt ≠ c) :
    Calls Tryz.prog 126 #[pt bx, pt bt] w fun e w' => OpenOut1 w w' c K bs p (openS T (bs.drop p)) e ∧ Fr (fun k => k = c) w w' := by
  have hle := h.le
  have HR := Lib.hid (read_any h)
  have HB := Lib.hid B
  have HBT := Lib.hid BT
  have e0 := B.cell 0
  simp at e0
  clear h B BT
  go_enter Tryz.func126, Tryz.ntmps126
  go_wp2_with fail
  refine HR.out.mono ?_
  rintro e w1 ⟨⟨⟨tc, tn, tm⟩, n, x, rfl, ht⟩, C1, F1⟩
  rw [show frontV ⟨tc, tn, tm⟩ n = .agg #[.int .i64 tc, .int .i64 tn, .bool tm, .int .i64 n] from rfl]
  have HT := Lib.hid ht
  go_upto_region 2 with fail
  have F2 : Fr (fun _ => False) w1 (w1.alloc (.cells #[.int .i64 tc, .int .i64 tn, .bool tm, .int .i64 n] 189)) := (Fr.refl w1).alloc _
  have BD := Blk.new w1 189 #[.int .i64 tc, .int .i64 tn, .bool tm, .int .i64 n]
  have HC2 := Lib.hid (C1.old F2)
  have G2 := F1.trans (F2.mono (T := fun k => k = c) (fun _ _ h => h.elim))
  have HG2 := Lib.hid G2
  have SB := ((HB.out.fr F1 hbx).fr F2 (fun h => h)).cell 0
  have ST := ((HBT.out.fr F1 hbt).fr F2 (fun h => h)).cell
  have SD := BD.cell
  simp at SB
  obtain ⟨d, hd⟩ : ∃ d, d = w1.heap.size := ⟨_, rfl⟩
  rw [← hd] at BD SD ⊢
  clear hd C1 F1 F2 ht HR e0
  generalize (w1.alloc (.cells #[.int .i64 tc, .int .i64 tn, .bool tm, .int .i64 n] 189)) = w2 at *
  by_cases hx : x = 0
  · subst hx
    obtain ⟨u, hu⟩ : ∃ u : Tag, u = ⟨tc, tn, tm⟩ := ⟨_, rfl⟩
    have hok : ∃ k, readS (bs.drop p) = .ok (u, n, k) := by
      have ht := HT.out
      cases hr : readS (bs.drop p) with
      | error e => rw [hr] at ht; exact absurd ht.symm (readS_err hr)
      | ok vk => obtain ⟨v, m, k⟩ := vk; rw [hr] at ht; exact ⟨k, by rw [hu, ht.1, ht.2.1]⟩
    obtain ⟨k, hk⟩ := hok
    have hkl := (readS_le hk).1
    have hc := HC2.out
    rw [hk] at hc
    have HC := Lib.hid hc
    have HK := Lib.hid hk
    have HU := Lib.hid hu
    rw [List.length_drop] at hkl
    have bad : u ≠ T → OpenOut1 w w2 c K bs p (openS T (bs.drop p)) (.returned (.tuple #[.pointer none, .int .i64 4])) := fun hne => by
      rw [openS_tag HK.out hne]
      exact ⟨rfl, p + k, by omega, HC.out⟩
    have HBAD := Lib.hid bad
    clear hk hc hu bad HC2
    go_wp2_with fail
    rotate_left
    iterate 3
      refine bodyPost_ret (v := .tuple #[.pointer none, .int .i64 4]) (by simp [results, Tryz.results126, go_sem]) rfl ⟨HBAD.out fun e => ?_, HG2.out⟩
      have e2 := HU.out
      rw [e] at e2
      subst e2
      first | exact absurd rfl ‹¬ tm = _› | exact absurd rfl ‹¬ tn = _› | exact absurd rfl ‹¬ tc = _›
    have hT : u = T := by
      rw [HU.out]
      show (⟨tc, tn, tm⟩ : Tag) = ⟨T.cls, T.num, T.made⟩
      rw [‹tc = T.cls›, ‹tn = T.num›, ‹tm = T.made›]
    rw [hT] at HK
    clear hT HU HBAD
    by_cases hn : n ≤ bs.length - (p + k)
    · have HO := Lib.hid (openS_ok (T := T) HK.out (by rw [List.length_drop]; omega))
      have hS := sub_ok HC.out n hn
      rw [show (bs.drop (posR p (.ok (u, n, k)))).take n = ((bs.drop p).drop k).take n from by rw [List.drop_drop]; rfl] at hS
      refine hS.mono ?_
      rintro e w3 ⟨g, rfl, hN, C3, F3⟩
      have HN := Lib.hid hN
      have HC3 := Lib.hid C3
      have HF3 := Lib.hid (HG2.out.trans F3)
      clear hS hN C3 F3 G2
      go_wp2_with fail
      refine bodyPost_ret (v := .tuple #[pt g, .int .i64 0]) (by simp [results, Tryz.results126, go_sem]) rfl ⟨?_, HF3.out⟩
      rw [HO.out]
      exact ⟨g, rfl, HN.out.up HG2.out.size, by have := HC3.out; rwa [show posR p (.ok (u, n, k)) + n = p + (k + n) from Nat.add_assoc p k n] at this⟩
    · have HO := Lib.hid (openS_end (T := T) HK.out (by rw [List.length_drop]; omega))
      refine (sub_end HC.out n (by show bs.length - (p + k) < n; omega)).mono ?_
      rintro e w3 ⟨rfl, F3⟩
      have HC3 := Lib.hid (HC.out.old F3)
      have HF3 := Lib.hid (HG2.out.trans (F3.mono (fun _ _ h => h.elim)))
      clear F3 G2 HC
      go_wp2_with fail
      refine bodyPost_ret (v := .tuple #[.pointer none, .int .i64 3]) (by simp [results, Tryz.results126, go_sem]) rfl ⟨?_, HF3.out⟩
      rw [HO.out]
      exact ⟨rfl, p + k, by omega, HC3.out⟩
  · have hx1 : (x == 0) = false := beq_eq_false_iff_ne.2 hx
    have herr : readS (bs.drop p) = .error x := by
      have ht := HT.out
      cases hr : readS (bs.drop p) with
      | error e => rw [hr] at ht; rw [show x = e from ht]
      | ok vk => obtain ⟨v, m, k⟩ := vk; rw [hr] at ht; exact absurd ht.2.2 hx
    have hc := HC2.out
    rw [herr] at hc
    have HO := Lib.hid (openS_err1 (T := T) herr)
    have HC := Lib.hid hc
    clear herr hc
    go_wp2_with fail
    refine bodyPost_ret (v := .tuple #[.pointer none, .int .i64 x]) (by simp [results, Tryz.results126, go_sem]) rfl ⟨?_, HG2.out⟩
    rw [HO.out]
    exact ⟨rfl, p, Nat.le_refl _, HC.out⟩
def OpenOut (w w' : World) (c : Nat) (K : Nat → Prop) (bs : List UInt8) (p : Nat) (r : Except Int (List UInt8 × Nat)) (e : Ending) : Prop :=
  match r with
  | .ok (y, k) => ∃ g, e = .returned (.tuple #[pt g, .int .i64 0]) ∧ NewCur w w' g y ∧ CurAt w' c K bs (p + k)
  | .error x => e = .returned (.tuple #[.pointer none, .int .i64 x]) ∧ CurAt w' c K bs p
set_option maxRecDepth 20000 in
set_option maxHeartbeats 2000000 in
theorem open_any {w : World} {c : Nat} {K : Nat → Prop} {bs : List UInt8} {p : Nat} (h : CurAt w c K bs p) (T : Tag) :
    Calls Tryz.prog 81 #[pt c, .agg #[.int .i64 T.cls, .int .i64 T.num, .bool T.made]] w fun e w' => OpenOut w w' c K bs p (openS T (bs.drop p)) e ∧ Fr (fun k => k = c) w w' := by
  have hlc := h.lt
  obtain ⟨bx, hbx⟩ : ∃ bx, bx = w.heap.size := ⟨_, rfl⟩
  have B := (Blk.new w 50 #[pt c]).alloc (.cells #[.int .i64 T.cls, .int .i64 T.num, .bool T.made] 97)
  have BT := Blk.new (w.alloc (.cells #[pt c] 50)) 97 #[.int .i64 T.cls, .int .i64 T.num, .bool T.made]
  rw [World.size_alloc] at BT
  have F : Fr (fun _ => False) w ((w.alloc (.cells #[pt c] 50)).alloc (.cells #[.int .i64 T.cls, .int .i64 T.num, .bool T.made] 97)) := ((Fr.refl w).alloc _).alloc _
  have H := Lib.hid (h.old F)
  rw [← hbx] at B BT
  have hbc : bx ≠ c := by omega
  have htc : bx + 1 ≠ c := by omega
  have HBX := Lib.hid hbx
  have e0 := B.cell 0
  simp at e0
  clear h hbx hlc
  go_enter Tryz.func81, Tryz.ntmps81
  go_upto_region 1 with fail
  rw [← HBX.out]
  generalize ((w.alloc (.cells #[pt c] 50)).alloc (.cells #[.int .i64 T.cls, .int .i64 T.num, .bool T.made] 97)) = w0 at *
  have HF := Lib.hid F
  have HO1 := Lib.hid (open1_any H.out T bx (bx + 1) B BT hbc htc)
  clear F B BT HBX
  go_wp2_with (first | (go_at_call 125; go_in))
  refine (at_any H.out).mono ?_
  rintro e w1' ⟨rfl, rfl⟩
  go_wp2_with fail
  refine HO1.out.mono ?_
  rintro e w2 ⟨hout, F2⟩
  have HF2 := Lib.hid ((HF.out.mono (T := fun k => k = c) (fun _ _ h => h.elim)).trans F2)
  clear F2 HO1 H
  have hsz := HF.out.size
  cases hr : openS T (bs.drop p) with
  | error x =>
    rw [hr] at hout
    obtain ⟨rfl, q, hq, C2⟩ := hout
    have hx := openS_nz hr
    have hx1 : (x == 0) = false := beq_eq_false_iff_ne.2 hx
    have hx2 : (x != 0) = true := by simpa using hx
    have HB := Lib.hid (back_any C2 p hq)
    have HR := Lib.hid hr
    clear hr hx C2
    go_wp2_with fail
    refine HB.out.mono ?_
    rintro e w3 ⟨rfl, C3, F3⟩
    have HC3 := Lib.hid C3
    have HF3 := Lib.hid (HF2.out.trans F3)
    clear C3 F3 HB
    go_wp2_with fail
    refine bodyPost_ret (v := .tuple #[.pointer none, .int .i64 x]) (by simp [results, Tryz.results81, go_sem]) rfl ⟨?_, HF3.out⟩
    rw [HR.out]
    exact ⟨rfl, HC3.out⟩
  | ok yk =>
    obtain ⟨y, k⟩ := yk
    rw [hr] at hout
    obtain ⟨g, rfl, hN, C2⟩ := hout
    have HN := Lib.hid (hN.up hsz)
    have HC2 := Lib.hid C2
    have HR := Lib.hid hr
    clear hr hN C2
    go_wp2_with fail
    refine bodyPost_ret (v := .tuple #[pt g, .int .i64 0]) (by simp [results, Tryz.results81, go_sem]) rfl ⟨?_, HF2.out⟩
    rw [HR.out]
    exact ⟨g, rfl, HN.out, HC2.out⟩
theorem open_err {w : World} {c : Nat} {K : Nat → Prop} {bs : List UInt8} {p : Nat} (h : CurAt w c K bs p) (T : Tag) {x : Int} (ho : openS T (bs.drop p) = .error x) :
    Calls Tryz.prog 81 #[pt c, tagV T] w fun e w' => e = .returned (.tuple #[.pointer none, .int .i64 x]) ∧ CurAt w' c K bs p ∧ Fr (fun k => k = c) w w' :=
  (open_any h T).mono fun e w' ⟨h1, h2⟩ => by
    rw [ho] at h1
    exact ⟨h1.1, h1.2, h2⟩
theorem open_on {w : World} {c : Nat} {K : Nat → Prop} {bs : List UInt8} {p : Nat} (h : CurAt w c K bs p) (T : Tag) {y : List UInt8} {k : Nat} (ho : openS T (bs.drop p) = .ok (y, k)) :
    Calls Tryz.prog 81 #[pt c, tagV T] w fun e w' => (∃ g, e = .returned (.tuple #[pt g, .int .i64 0]) ∧ NewCur w w' g y ∧ CurAt w' c K bs (p + k)) ∧ Fr (fun k => k = c) w w' :=
  (open_any h T).mono fun e w' ⟨h1, h2⟩ => by
    rw [ho] at h1
    exact ⟨h1, h2⟩
end Go.Proofs.YthamenngccaijaaGreatDoor

namespace Go.Q
open Go Go.RowKit
theorem numberS_nz : ∀ {l : List UInt8} {i n : Nat} {x : Int}, numberS i n l = .error x → x ≠ 0
  | [], i, n, x, h => by simp only [numberS, Except.error.injEq] at h; omega
  | y :: t, i, n, x, h => by
    simp only [numberS] at h
    split at h
    · cases h; decide
    split at h
    · cases h; decide
    split at h
    · cases h
    · exact numberS_nz h
theorem oidStS_nz : ∀ {l : List UInt8} {o : List Int} {i n : Nat} {x : Int}, oidStS o i n l = .error x → x ≠ 0
  | [], o, i, n, x, h => by
    simp only [oidStS] at h
    split at h
    · cases h
    · cases h; decide
  | y :: t, o, i, n, x, h => by
    simp only [oidStS] at h
    split at h
    · cases h; decide
    split at h
    · cases h; decide
    split at h
    · split at h
      · cases h; decide
      · exact oidStS_nz h
    · exact oidStS_nz h
theorem oidParse_nz {l : List UInt8} {x : Int} (h : oidParseS l = .error x) : x ≠ 0 := by
  unfold oidParseS at h
  split at h
  · cases h; decide
  · exact oidStS_nz h
theorem oidRead_nz {l : List UInt8} {x : Int} (h : oidReadS l = .error x) : x ≠ 0 := by
  unfold oidReadS at h
  split at h
  · rename_i hx
    cases h
    exact openS_nz hx
  · split at h
    · rename_i hx
      cases h
      exact oidParse_nz hx
    · cases h
end Go.Q
namespace Go.Proofs.YthamenngccaijaaGreatDoor
open Go Go.RowKit Go.Q
set_option linter.unusedSimpArgs false
def nextOut (w' : World) (c : Nat) (K : Nat → Prop) (bs : List UInt8) (p : Nat) (r : Except Int (Nat × Nat)) (e : Ending) : Prop :=
  match r with
  | .ok (m, k) => e = .returned (.tuple #[.int .i64 m, .int .i64 0]) ∧ CurAt w' c K bs (p + k)
  | .error x => e = .returned (.tuple #[.int .i64 0, .int .i64 x]) ∧ ∃ q, p ≤ q ∧ CurAt w' c K bs q
set_option maxRecDepth 20000 in
set_option maxHeartbeats 2000000 in
theorem oidNext_any {w : World} {c : Nat} {K : Nat → Prop} {bs : List UInt8} {p : Nat} (h : CurAt w c K bs p) :
    Calls Tryz.prog 181 #[pt c] w fun e w' => nextOut w' c K bs p (numberS 0 0 (bs.drop p)) e ∧ Fr (fun k => k = c) w w' := by
  have H := Lib.hid h
  have hple := h.le
  clear h
  go_enter Tryz.func181, Tryz.ntmps181
  go_wp2_with fail
  go_loopg [4, 5] (bs.length - p) (fun g n i wr => ∃ (k m : Nat), g = bs.length - p - k ∧ m ≤ 2147483647 ∧ n = .int .i64 m ∧ i = .int .i64 k ∧ CurAt wr c K bs (p + k) ∧ Fr (fun k => k = c) w wr ∧ numberS 0 0 (bs.drop p) = numberS k m (bs.drop (p + k)))
  case atStart => exact ⟨0, 0, rfl, by omega, rfl, rfl, H.out, Fr.refl _, rfl⟩
  case round =>
    obtain ⟨k, m, hg, hm, rfl, rfl, hC, hF, hN⟩ := hrel
    have HG := Lib.hid hg
    have HC := Lib.hid hC
    have HN := Lib.hid hN
    have hcle := hC.le
    have hcsm := hC.small
    clear hg hC hN
    cases hd : bs.drop (p + k) with
    | nil =>
      have HD := Lib.hid hd
      clear hd
      go_wp2_with fail
      refine (byte_end HC.out HD.out).mono ?_
      rintro e w1 ⟨rfl, F1⟩
      go_wp2_with fail
      have hN := HN.out
      rw [HD.out] at hN
      simp only [numberS] at hN
      refine bodyPost_ret (v := .tuple #[.int .i64 0, .int .i64 6]) (by simp [results, Tryz.results181, go_sem]) rfl ⟨?_, hF.trans (F1.mono (fun _ _ h => h.elim))⟩
      rw [hN]
      exact ⟨rfl, _, Nat.le_add_right _ _, HC.out.old F1⟩
    | cons x t =>
      have HD := Lib.hid hd
      have hdl : (bs.drop (p + k)).length = t.length + 1 := by rw [hd]; rfl
      rw [List.length_drop] at hdl
      have hd2 : bs.drop (p + (k + 1)) = t := by
        rw [← Nat.add_assoc, ← List.drop_drop, hd]; rfl
      have HD2 := Lib.hid hd2
      clear hd hd2 hdl
      go_wp2_with fail
      refine (byte_on HC.out HD.out).mono ?_
      rintro e w1 ⟨rfl, C1, F1⟩
      have hx : x.toNat < 256 := x.toNat_lt
      have hN := HN.out
      rw [HD.out] at hN
      simp only [numberS] at hN
      have HC1 := Lib.hid C1
      have HF1 := Lib.hid (hF.trans F1)
      clear C1 hF F1 HC
      by_cases h3 : k = 0 ∧ x.toNat = 128
      · rw [if_pos h3] at hN
        have HN2 := Lib.hid hN
        obtain ⟨rfl, h128⟩ := h3
        have h128' : (x.toNat : Int) = 128 := by omega
        clear hN HN
        go_wp2_with fail
        refine bodyPost_ret (v := .tuple #[.int .i64 0, .int .i64 6]) (by simp [results, Tryz.results181, go_sem]) rfl ⟨?_, HF1.out⟩
        rw [HN2.out]
        exact ⟨rfl, _, by omega, HC1.out⟩
      · rw [if_neg h3] at hN
        obtain ⟨r, hr⟩ : ∃ r, r = x.toNat % 128 := ⟨_, rfl⟩
        have hr2 : r < 128 := by omega
        have hb1 : bits .and .u8 (x.toNat : Int) 127 = (r : Int) := by rw [hr]; exact and127 x
        obtain ⟨v, hv⟩ : ∃ v, v = m * 128 + r := ⟨_, rfl⟩
        have hb2 : bits .or .i64 ((m : Int) * 128) (r : Int) = (v : Int) := by rw [hv]; exact or7 m r (by omega) hr2
        have hw1 : wrap64 ((m : Int) * 128) = (m : Int) * 128 := by unfold wrap64; omega
        have hw2 : wrap64 (r : Int) = (r : Int) := wrap_nat r (by omega)
        rw [← hr, ← hv] at hN
        have HN2 := Lib.hid hN
        have HW := Lib.hid (And.intro hb1 (And.intro hb2 (And.intro hw1 hw2)))
        clear hb1 hb2 hw1 hw2 hN HN
        have hxv : x.toNat < 128 → m * 128 + x.toNat = v := fun h => by omega
        have HXV := Lib.hid hxv
        clear hr hv hxv
        rcases Classical.em (k = 0) with h0 | h0
        case' inl =>
          have h128' : ¬ (x.toNat : Int) = 128 := by omega
          have hk0 : ((k : Int) == 0) = true := by simpa using h0
        case' inr =>
          have hk0 : ((k : Int) == 0) = false := by simpa using h0
        all_goals
          by_cases hvm : 2147483647 < v
          · have hv31 : (2147483647 : Int) < (v : Int) := by omega
            have hE := HN2.out
            rw [if_pos hvm] at hE
            have HE := Lib.hid hE
            clear hE HN2 hvm hm
            go_upto_region 8 with fail
            simp only [HW.out.1, HW.out.2.2.1, HW.out.2.2.2, HW.out.2.1]
            go_wp2_with fail
            refine bodyPost_ret (v := .tuple #[.int .i64 0, .int .i64 2]) (by simp [results, Tryz.results181, go_sem]) rfl ⟨?_, HF1.out⟩
            rw [HE.out]
            exact ⟨rfl, _, by omega, HC1.out⟩
          · have hv31 : ¬ (2147483647 : Int) < (v : Int) := by omega
            have hE := HN2.out
            rw [if_neg hvm] at hE
            by_cases hx7 : x.toNat < 128
            · have hx8 : (x.toNat : Int) < 128 := by omega
              rw [if_pos hx7, HXV.out hx7] at hE
              have HE := Lib.hid hE
              clear hE HN2 hvm hm
              go_upto_region 8 with fail
              simp only [HW.out.1, HW.out.2.2.1, HW.out.2.2.2, HW.out.2.1]
              go_wp2_with fail
              refine bodyPost_ret (v := .tuple #[.int .i64 v, .int .i64 0]) (by simp [results, Tryz.results181, go_sem]) rfl ⟨?_, HF1.out⟩
              rw [HE.out]
              exact ⟨rfl, HC1.out⟩
            · have hx8 : ¬ (x.toNat : Int) < 128 := by omega
              rw [if_neg hx7] at hE
              have HE := Lib.hid hE
              clear hE HN2 hvm hm
              go_upto_region 8 with fail
              simp only [HW.out.1, HW.out.2.2.1, HW.out.2.2.2, HW.out.2.1]
              go_wp2_with fail
              go_roundg (bs.length - p - (k + 1))
              case measure => rw [HG.out]; have := HC1.out.le; omega
              case rel => exact ⟨k + 1, v, rfl, by omega, rfl, by go_num, HC1.out, HF1.out, by rw [HE.out, HD2.out]⟩
set_option maxRecDepth 20000 in
theorem oidSplit_any (m : Nat) (hm : m ≤ 2147483647) (w : World) :
    Calls Tryz.prog 182 #[.int .i64 m] w fun e w' => ∃ a c, e = .returned (.slice a 2 c) ∧ w'.ownsRow w.heap.size 3 1 (.slice a 2 c) 2 (intCells (addS [] m)) ∧ Fr (fun _ => False) w w' := by
  have HA := Lib.hid (show addS [] m = if m < 80 then [((m / 40 : Nat) : Int), ((m % 40 : Nat) : Int)] else [2, (m : Int) - 80] from rfl)
  have hq : (m : Int) / 40 = ((m / 40 : Nat) : Int) := by omega
  have hr : (m : Int) % 40 = ((m % 40 : Nat) : Int) := by omega
  generalize m / 40 = mq at *
  generalize m % 40 = mr at *
  by_cases h8 : m < 80
  · have q1 : (m : Int) < 80 := by omega
    have hA := HA.out
    rw [if_pos h8] at hA
    have HA2 := Lib.hid hA
    clear hA HA
    go_enter Tryz.func182, Tryz.ntmps182
    go_wp2_with fail
    go_ret
    rw [HA2.out]
    exact ⟨_, 2, rfl, own_block (Blk.new w 3 #[.int .i64 mq, .int .i64 mr]) 2 (Nat.le_refl _) (by unfold maxLen; simp) _ (Nat.le_refl _), (Fr.refl w).alloc _⟩
  · have q1 : ¬ (m : Int) < 80 := by omega
    have hA := HA.out
    rw [if_neg h8] at hA
    have HA2 := Lib.hid hA
    clear hA HA hq hr
    go_enter Tryz.func182, Tryz.ntmps182
    go_wp2_with fail
    go_ret
    rw [HA2.out]
    exact ⟨_, 2, rfl, own_block (Blk.new w 3 #[.int .i64 2, .int .i64 ((m : Int) - 80)]) 2 (Nat.le_refl _) (by unfold maxLen; simp) _ (Nat.le_refl _), (Fr.refl w).alloc _⟩
def oidParseOut (w w' : World) (r : Except Int (List Int)) (e : Ending) : Prop :=
  match r with
  | .ok o => ∃ a c, e = .returned (.tuple #[.slice a o.length c, .int .i64 0]) ∧ w'.ownsRow w.heap.size 3 1 (.slice a o.length c) o.length (intCells o)
  | .error x => e = .returned (.tuple #[.slice none 0 0, .int .i64 x])
theorem addS_snoc {o : List Int} (h : o ≠ []) (m : Nat) : addS o m = o ++ [(m : Int)] := if_neg h
set_option maxRecDepth 20000 in
set_option maxHeartbeats 2000000 in
theorem oidParse_any (v : Value) (l : List UInt8) (w : World) (h : Bytes w v l) (hl : l.length ≤ 1099511627776) :
    Calls Tryz.prog 140 #[v] w fun e w' => oidParseOut w w' (oidParseS l) e ∧ Fr (fun _ => False) w w' := by
  have hN := Lib.hid (new_any w v l h hl)
  have HP := Lib.hid (show oidParseS l = if l = [] then .error 6 else oidStS [] 0 0 l from rfl)
  clear h
  go_enter Tryz.func140, Tryz.ntmps140
  go_wp2_with fail
  refine hN.out.mono ?_
  rintro e w1 ⟨rfl, C1, F1⟩
  obtain ⟨c, hc⟩ : ∃ c, c = w.heap.size := ⟨_, rfl⟩
  have HX := Lib.hid (oidNext_any C1)
  have HF1 := Lib.hid F1
  rw [← hc] at HX C1 ⊢
  have hs1 := F1.size
  have hc1 := C1.lt
  have HC := Lib.hid hc
  clear C1 F1 hN hc
  go_wp2_with fail
  refine HX.out.mono ?_
  rintro e w2 ⟨hout, F2⟩
  rw [List.drop_zero] at hout
  have HF2 := Lib.hid (HF1.out.trans' F2 (fun i hi e => absurd hi (by rw [e, HC.out]; exact Nat.lt_irrefl _)))
  have hs2 := F2.size
  clear F2 HX HF1
  unfold nextOut at hout
  cases hn : numberS 0 0 l with
  | error x =>
    rw [hn] at hout
    obtain ⟨rfl, -⟩ := hout
    have hx := numberS_nz hn
    have hx1 : (x == 0) = false := beq_eq_false_iff_ne.2 hx
    have hx2 : (x != 0) = true := by simpa using hx
    have hr : oidParseS l = .error x := by
      rw [HP.out]
      cases l with
      | nil => rw [if_pos rfl]; simp only [numberS] at hn; cases hn; rfl
      | cons y t => rw [if_neg (by simp), oidSt_num [] _ 0 0 (.inr (by simp)), hn]
    have HR := Lib.hid hr
    clear hn hr hx HP
    go_wp2_with fail
    refine bodyPost_ret (v := .tuple #[.slice none 0 0, .int .i64 x]) (by simp [results, Tryz.results140, go_sem]) rfl ⟨?_, HF2.out⟩
    rw [HR.out]
    exact rfl
  | ok mk =>
    obtain ⟨m, k⟩ := mk
    rw [hn] at hout
    obtain ⟨rfl, C2⟩ := hout
    obtain ⟨j, hj, -, hm, hj1, hjl⟩ := numberS_back _ 0 0 m k (fun _ => rfl) (fun h => absurd rfl h) hn
    have hl0 : l ≠ [] := by rintro rfl; simp at hjl; omega
    have hst : oidParseS l = oidStS (addS [] m) 0 0 (l.drop k) := by
      rw [HP.out, if_neg hl0, oidSt_num [] _ 0 0 (.inr hl0), hn]
      simp only [List.length_nil]
      rw [if_neg (by omega), Nat.sub_zero]
    have hal : (addS [] m).length = 2 := by unfold addS; rw [if_pos rfl]; split <;> rfl
    obtain ⟨o2, ho2⟩ : ∃ o, o = addS [] m := ⟨_, rfl⟩
    have HS2 := Lib.hid (oidSplit_any m hm w2)
    rw [← ho2] at hst hal HS2
    rw [Nat.zero_add] at C2
    have hc2 := C2.lt
    have HST := Lib.hid hst
    have HAL := Lib.hid hal
    have HC2 := Lib.hid C2
    have hle2 := C2.le
    clear C2 hst hal ho2 hn hj hjl hl0 HP
    go_wp2_with fail
    refine HS2.out.mono ?_
    rintro e w3 ⟨a2, c2, rfl, hown, F3⟩
    have HO3 := Lib.hid hown
    have HC3 := Lib.hid ((HC2.out.step (K' := fun k => k < w.heap.size ∨ w2.heap.size ≤ k) (Fr.refl w2) (S := fun _ => False) (fun _ _ h => h.elim) (fun k hk => by have := HC.out; omega)).old F3)
    have HF3 := Lib.hid (HF2.out.trans F3)
    have hs3 := F3.size
    clear hown F3 HF2 HC2 HS2
    go_wp2_with fail
    go_loopg [7] (l.length - k) (fun g u wr => ∃ (o : List Int) (q : Nat) (a : Option Addr) (cc : Nat), g = l.length - q ∧ q ≤ l.length ∧ o.length ≤ 32 ∧ 2 ≤ o.length ∧ u = .slice a o.length cc ∧ wr.ownsRow w2.heap.size 3 1 (.slice a o.length cc) o.length (intCells o) ∧ CurAt wr c (fun k => k < w.heap.size ∨ w2.heap.size ≤ k) l q ∧ Fr (fun _ => False) w wr ∧ w2.heap.size ≤ wr.heap.size ∧ oidParseS l = oidStS o 0 0 (l.drop q))
    case atStart => exact ⟨o2, k, a2, c2, rfl, hle2, by rw [HAL.out]; omega, by rw [HAL.out]; exact Nat.le_refl _, by rw [HAL.out], by rw [HAL.out]; exact HO3.out, HC3.out, HF3.out, hs3, HST.out⟩
    case round =>
      obtain ⟨o, q, a, cc, hg, hq, ho32, ho2, rfl, hown, hC, hF, hsz, hR⟩ := hrel
      have HG := Lib.hid hg
      have HOW := Lib.hid hown
      have HCC := Lib.hid hC
      have HF := Lib.hid hF
      have HR := Lib.hid hR
      have HL := Lib.hid (left_any hC)
      clear hg hown hC hF hR
      by_cases hql : q < l.length
      · have q1 : (0 : Int) < ((l.length - q : Nat) : Int) := by omega
        obtain ⟨lq, hlq⟩ : ∃ lq, lq = l.length - q := ⟨_, rfl⟩
        rw [← hlq] at q1 HL HG
        have HLQ := Lib.hid hlq
        clear hlq
        go_wp2_with fail
        refine HL.out.mono ?_
        rintro e w4 ⟨rfl, F4⟩
        have HC4 := Lib.hid (HCC.out.old F4)
        have HX := Lib.hid (oidNext_any HC4.out)
        have HF4 := Lib.hid (HF.out.trans F4)
        have HO4 := Lib.hid (ownsRow_fr HOW.out F4 (fun _ _ h => h))
        have hs4 := F4.size
        clear F4 HCC HF HOW HL
        go_wp2_with fail
        refine HX.out.mono ?_
        rintro e w5 ⟨hout, F5⟩
        have HF5 := Lib.hid (HF4.out.trans' F5 (fun i hi e => absurd hi (by rw [e, HC.out]; exact Nat.lt_irrefl _)))
        have HO5 := Lib.hid (ownsRow_fr HO4.out F5 (fun k hk e => by have := ((Vals.of_own HO4.out).2 k hk).1; omega))
        have hs5 := F5.size
        unfold nextOut at hout
        have hd0 : l.drop q ≠ [] := by
          intro e
          have := congrArg List.length e
          rw [List.length_drop, List.length_nil] at this
          omega
        have hst := oidSt_num o (l.drop q) 0 0 (.inr hd0)
        clear F5 HF4 HO4 HX hd0
        cases hn : numberS 0 0 (l.drop q) with
        | error x =>
          rw [hn] at hout hst
          obtain ⟨rfl, -⟩ := hout
          have hx := numberS_nz hn
          have hx1 : (x == 0) = false := beq_eq_false_iff_ne.2 hx
          have hx2 : (x != 0) = true := by simpa using hx
          have HR2 := Lib.hid (HR.out.trans hst)
          clear hn hx hst
          go_wp2_with fail
          refine bodyPost_ret (v := .tuple #[.slice none 0 0, .int .i64 x]) (by simp [results, Tryz.results140, go_sem]) rfl ⟨?_, HF5.out⟩
          rw [HR2.out]
          exact rfl
        | ok mk =>
          obtain ⟨m2, k2⟩ := mk
          rw [hn] at hout hst
          obtain ⟨rfl, C5⟩ := hout
          obtain ⟨j2, hj2, -, hm2, hj3, hjl2⟩ := numberS_back _ 0 0 m2 k2 (fun _ => rfl) (fun h => absurd rfl h) hn
          have HR2 := Lib.hid (HR.out.trans hst)
          rw [Nat.zero_add] at hj2
          subst hj2
          have hk2 := C5.le
          have HC5 := Lib.hid C5
          have hql2 : l.length - (q + k2) < l.length - q := by omega
          have HQ := Lib.hid hql2
          clear hn hst C5 HC4 hm2 hjl2 hql2
          by_cases h32 : o.length = 32
          · have q3 : ((o.length : Int) == 32) = true := by rw [h32]; rfl
            have q4 : (o.length == 32) = true := by rw [h32]; rfl
            have hr := HR2.out
            simp only [h32, ↓reduceIte] at hr
            have HR3 := Lib.hid hr
            clear hr HR2 h32
            go_wp2_with fail
            refine bodyPost_ret (v := .tuple #[.slice none 0 0, .int .i64 2]) (by simp [results, Tryz.results140, go_sem]) rfl ⟨?_, HF5.out⟩
            rw [HR3.out]
            exact rfl
          · have q3 : ((o.length : Int) == 32) = false := beq_eq_false_iff_ne.2 (by omega)
            have q4 : (o.length == 32) = false := beq_eq_false_iff_ne.2 (by omega)
            have hr := HR2.out
            have hlt : o.length + 1 ≤ 32 := by omega
            simp only [h32, ↓reduceIte, Nat.sub_zero] at hr
            rw [addS_snoc (by rintro rfl; simp at ho2), List.drop_drop] at hr
            have HR3 := Lib.hid hr
            obtain ⟨a7, c7, w7, hrun, ho7, F7, hw7⟩ := add_int HO5.out (Nat.le_trans hsz (Nat.le_trans hs4 hs5)) (by omega) (m2 : Int) w5.heap.size ((Fr.refl w5).alloc (.cells #[.int .i64 m2] 3)) (Blk.new w5 3 #[.int .i64 m2])
            have hkp := (Vals.of_own HO5.out).2
            have HC7 := Lib.hid (HC5.out.step (K' := fun k => k < w.heap.size ∨ w2.heap.size ≤ k) F7 (fun k hk e => .inr (hkp k e).1) (fun k hk => .inl hk))
            have HF7 := Lib.hid (HF5.out.trans' F7 (fun i hi e => absurd hi (by have := (hkp i e).1; omega)))
            have hs7 := F7.size
            have HRUN := Lib.hid hrun
            have HO7 := Lib.hid ho7
            clear hr HR2 h32 hrun ho7 F7 hw7 hkp HC5
            go_wp2_with (at_builtin; refine wpList_append_run (by rfl) (.tmp 36) (.tmp 38) 105 (by rfl) _ w7 (by exact HRUN.out) ?_)
            go_roundg (l.length - (q + k2))
            case measure => rw [HG.out, HLQ.out]; exact HQ.out
            case rel => exact ⟨o ++ [(m2 : Int)], q + k2, a7, c7, rfl, hk2, by rw [List.length_append]; exact hlt, by rw [List.length_append]; omega, by rw [List.length_append]; rfl, by rw [List.length_append]; exact HO7.out, HC7.out, HF7.out, by omega, HR3.out⟩
      · obtain rfl : q = l.length := by omega
        have q1 : ¬ (0 : Int) < ((l.length - l.length : Nat) : Int) := by omega
        have hr := HR.out
        rw [List.drop_length] at hr
        simp only [oidStS, ↓reduceIte] at hr
        have HR2 := Lib.hid hr
        rw [Nat.sub_self] at HL
        clear hr HR q1
        go_wp2_with fail
        refine HL.out.mono ?_
        rintro e w4 ⟨rfl, F4⟩
        have HF4 := Lib.hid (HF.out.trans F4)
        have HO4 := Lib.hid (own_le (ownsRow_fr HOW.out F4 (fun _ _ h => h)) (Nat.le_trans hs1 hs2))
        clear F4 HF HOW HL
        go_wp2_with fail
        refine bodyPost_ret (v := .tuple #[.slice a o.length cc, .int .i64 0]) (by simp [results, Tryz.results140, go_sem]) rfl ⟨?_, HF4.out⟩
        rw [HR2.out]
        exact ⟨a, cc, rfl, HO4.out⟩
end Go.Proofs.YthamenngccaijaaGreatDoor

namespace Go.Proofs.YthamenngccaijaaGreatDoor
open Go Go.RowKit Go.Q
set_option linter.unusedSimpArgs false
theorem made_any (k : Int) (w : World) :
    Calls Tryz.prog 121 #[.int .i64 k] w fun e w' => e = .returned (.bool (madeG k)) ∧ w = w' := by
  have hk : k = 0 ∨ k = 3 ∨ k = 4 ∨ k = 5 ∨ ((k == 0) = false ∧ (k == 3) = false ∧ (k == 4) = false ∧ (k == 5) = false) := by
    simp only [beq_eq_false_iff_ne]
    omega
  rcases hk with rfl | rfl | rfl | rfl | ⟨h0, h3, h4, h5⟩
  all_goals
    go_enter Tryz.func121, Tryz.ntmps121
    go_wp2_with fail
    go_ret
    first | exact ⟨rfl, rfl⟩ | exact ⟨by simp [madeG, h0, h3, h4, h5], rfl⟩
set_option maxRecDepth 20000 in
theorem headAt_any (k : Int) (m : Bool) (w : World) :
    Calls Tryz.prog 134 #[.int .i64 k, .bool m] w fun e w' => e = .returned (tagV (tagAt k m)) ∧ Fr (fun _ => False) w w' := by
  go_enter Tryz.func134, Tryz.ntmps134
  go_wp2_with fail
  exact bodyPost_ret (v := tagV (tagAt k m)) (by simp [results, Tryz.results134, go_sem, tagV, tagAt]) rfl ⟨rfl, (Fr.refl w).alloc _⟩
set_option maxRecDepth 20000 in
theorem genTag_any (k : Int) (w : World) :
    Calls Tryz.prog 90 #[.int .i64 k] w fun e w' => e = .returned (tagV (genTag k)) ∧ Fr (fun _ => False) w w' := by
  obtain ⟨m, hm⟩ : ∃ m, m = madeG k := ⟨_, rfl⟩
  have HM := Lib.hid (fun w => made_any k w)
  have HG := Lib.hid (show genTag k = tagAt k (madeG k) from rfl)
  rw [← hm] at HM HG
  clear hm
  obtain ⟨z, hz⟩ : ∃ z, z = w.heap.size := ⟨_, rfl⟩
  have HZ := Lib.hid hz
  have B := Blk.new w 97 #[.int .i64 0, .int .i64 0, .bool false]
  have F0 : Fr (fun _ => False) w (w.alloc (.cells #[.int .i64 0, .int .i64 0, .bool false] 97)) := (Fr.refl w).alloc _
  rw [← hz] at B
  clear hz
  go_enter Tryz.func90, Tryz.ntmps90
  go_upto_region 1 with fail
  rw [← HZ.out]
  generalize (w.alloc (.cells #[.int .i64 0, .int .i64 0, .bool false] 97)) = w0 at *
  have HF0 := Lib.hid F0
  clear F0
  go_wp2_with fail
  refine (HM.out w0).mono ?_
  rintro e w1 ⟨rfl, rfl⟩
  go_wp2_with fail
  refine (headAt_any k m w0).mono ?_
  rintro e w1 ⟨rfl, F1⟩
  have BZ := B.fr F1 (fun h => h)
  have HF1 := Lib.hid (HF0.out.trans F1)
  rw [show tagV (tagAt k m) = .agg #[.int .i64 2, .int .i64 k, .bool m] from rfl]
  obtain ⟨BZ5, F5⟩ := set3 BZ (.int .i64 2) (.int .i64 k) (.bool m)
  have z0 := BZ.cell 0
  have z1 := BZ.cell 1
  have z2 := BZ.cell 2
  have f0 := BZ.frozen 0
  have f1 := BZ.frozen 1
  have f2 := BZ.frozen 2
  have n0 := BZ5.cell 0
  have n1 := BZ5.cell 1
  have n2 := BZ5.cell 2
  simp only [List.getElem?_toArray, List.getElem?_cons_succ, List.getElem?_cons_zero] at z0 z1 z2 n0 n1 n2
  have HF5 := Lib.hid (HF1.out.trans' F5 (fun i hi e => by have := HZ.out; omega))
  clear B BZ BZ5 F1 F5
  go_wp2_with fail
  refine bodyPost_ret (v := .agg #[.int .i64 2, .int .i64 k, .bool m]) (by simp [results, Tryz.results90, go_sem, n0, n1, n2]) rfl ⟨?_, HF5.out⟩
  rw [HG.out]
  rfl
theorem plain1_any (c : UInt8) (w : World) :
    Calls Tryz.prog 180 #[.int .u8 c.toNat] w fun e w' => e = .returned (.bool (decide (127 < c.toNat))) ∧ w = w' := by
  have hd : decide ((127 : Int) < (c.toNat : Int)) = decide (127 < c.toNat) := decide_eq_decide.2 (by omega)
  go_enter Tryz.func180, Tryz.ntmps180
  go_wp2_with fail
  go_ret
  exact ⟨by rw [← hd]; rfl, rfl⟩
set_option maxRecDepth 20000 in
set_option maxHeartbeats 1000000 in
theorem indexPlain_any (v : Value) (b : List UInt8) (w : World) (h : Bytes w v b) :
    Calls Tryz.prog 230 #[v, .func (.func 180) #[] #[]] w fun e w' => (∃ x : Int, e = .returned (.int .i64 x) ∧ decide (0 ≤ x) = !(b.all (fun c => decide (c.toNat ≤ 127)))) ∧ w = w' := by
  have H := Lib.hid h
  obtain ⟨a, cap, rfl, hc, hm, -⟩ := h.form
  have hm2 : cap ≤ 9223372036854775807 := by unfold maxLen at hm; omega
  clear h hm
  go_enter Tryz.func230, Tryz.ntmps230
  go_wp2_with fail
  go_loopg [8] b.length (fun g i wr => ∃ j : Nat, g = b.length - j ∧ j ≤ b.length ∧ i = .int .i64 j ∧ (∀ c ∈ b.take j, c.toNat ≤ 127) ∧ wr = w)
  case atStart => exact ⟨0, rfl, Nat.zero_le _, rfl, by simp, rfl⟩
  case round =>
    obtain ⟨j, hg, hj, rfl, hall, rfl⟩ := hrel
    have HG := Lib.hid hg
    have HA := Lib.hid hall
    clear hg hall
    by_cases hjl : j < b.length
    · obtain ⟨a0, c0, he, -, -, hx⟩ := H.out.form
      simp only [Value.slice.injEq, true_and] at he
      obtain ⟨rfl, rfl⟩ := he
      obtain ⟨k, o, rfl, hy⟩ := hx (by omega)
      obtain ⟨c, hc1⟩ : ∃ c, b[j]? = some c := ⟨_, List.getElem?_eq_getElem hjl⟩
      have e1 := hy j c hc1
      have HC := Lib.hid hc1
      have r1 : (0 : Int) ≤ (j : Int) := by omega
      have r2 : (j : Int) < (b.length : Int) := by omega
      clear hx hy hc1
      obtain ⟨d, hd⟩ : ∃ d, d = decide (127 < c.toNat) := ⟨_, rfl⟩
      have HP := Lib.hid (plain1_any c wr)
      rw [← hd] at HP
      have HD := Lib.hid hd
      clear hd
      go_wp2_with fail
      refine HP.out.mono ?_
      rintro e w1 ⟨rfl, rfl⟩
      cases d with
      | true =>
        go_wp2_with fail
        go_ret
        refine ⟨⟨(j : Int), rfl, ?_⟩, rfl⟩
        have h1 := of_decide_eq_true HD.out.symm
        have h2 : b.all (fun c => decide (c.toNat ≤ 127)) = false := by
          rw [List.all_eq_false]
          exact ⟨c, List.mem_of_getElem? HC.out, by simp; omega⟩
        rw [h2, decide_eq_true (by omega)]
        rfl
      | false =>
        have h1 := of_decide_eq_false HD.out.symm
        have HN := Lib.hid (show ∀ x ∈ b.take (j + 1), x.toNat ≤ 127 from fun x hx => by
          rw [List.take_add_one, HC.out] at hx
          rcases List.mem_append.1 hx with h | h
          · exact HA.out x h
          · simp at h
            subst h
            omega)
        clear h1
        go_wp2_with fail
        go_roundg (b.length - (j + 1))
        case measure => rw [HG.out]; omega
        case rel => exact ⟨j + 1, rfl, by omega, by go_num, HN.out, rfl⟩
    · have hall := HA.out
      rw [List.take_of_length_le (by omega)] at hall
      have HN := Lib.hid (show b.all (fun c => decide (c.toNat ≤ 127)) = true from List.all_eq_true.2 fun x hx => decide_eq_true (hall x hx))
      clear hall
      go_wp2_with fail
      go_ret
      exact ⟨⟨-1, rfl, by rw [HN.out]; rfl⟩, rfl⟩
set_option maxRecDepth 20000 in
theorem containsPlain_any (v : Value) (b : List UInt8) (w : World) (h : Bytes w v b) :
    Calls Tryz.prog 179 #[v, .func (.func 180) #[] #[]] w fun e w' => e = .returned (.bool (!(b.all (fun c => decide (c.toNat ≤ 127))))) ∧ w = w' := by
  have HI := Lib.hid (indexPlain_any v b w h)
  clear h
  go_enter Tryz.func179, Tryz.ntmps179
  go_wp2_with fail
  refine HI.out.mono ?_
  rintro e w1 ⟨⟨x, rfl, hx⟩, rfl⟩
  have HX := Lib.hid hx
  clear hx
  go_wp2_with fail
  go_ret
  exact ⟨by rw [← HX.out]; rfl, rfl⟩
set_option maxRecDepth 20000 in
theorem plain_any (v : Value) (b : List UInt8) (w : World) (h : Bytes w v b) :
    Calls Tryz.prog 139 #[v] w fun e w' => e = .returned (.bool (plainB b)) ∧ Fr (fun _ => False) w w' := by
  obtain ⟨a, cap, rfl, -⟩ := h.form
  have HC := Lib.hid (containsPlain_any _ b w h)
  clear h
  have hp : plainB b = (decide (0 < b.length) && b.all (fun c => decide (c.toNat ≤ 127))) := rfl
  have HP := Lib.hid hp
  clear hp
  by_cases h0 : 0 < b.length
  · have q1 : decide ((0 : Int) < (b.length : Int)) = true := decide_eq_true (by omega)
    have q2 : (0 : Int) < (b.length : Int) := by omega
    obtain ⟨d, hd⟩ : ∃ d, d = b.all (fun c => decide (c.toNat ≤ 127)) := ⟨_, rfl⟩
    rw [← hd] at HC HP
    rw [decide_eq_true h0, Bool.true_and] at HP
    clear hd
    cases d
    all_goals
      go_enter Tryz.func139, Tryz.ntmps139
      go_wp2_with fail
      refine HC.out.mono ?_
      rintro e w1 ⟨rfl, rfl⟩
      go_wp2_with fail
      go_ret
      exact ⟨by rw [HP.out]; rfl, Fr.refl _⟩
  · have q1 : decide ((0 : Int) < (b.length : Int)) = false := decide_eq_false (by omega)
    have q2 : ¬ (0 : Int) < (b.length : Int) := by omega
    rw [decide_eq_false h0, Bool.false_and] at HP
    go_enter Tryz.func139, Tryz.ntmps139
    go_wp2_with fail
    go_ret
    exact ⟨by rw [HP.out]; rfl, Fr.refl _⟩
set_option maxRecDepth 20000 in
set_option maxHeartbeats 1000000 in
theorem wholesG_any (v : Value) (l : List UInt8) (w : World) (h : Bytes w v l) (hl : l.length ≤ 1099511627776) :
    Calls Tryz.prog 141 #[v] w fun e w' => e = .returned (.bool (wholesB l)) ∧ Fr (fun _ => False) w w' := by
  have hN := Lib.hid (new_any w v l h hl)
  clear h
  go_enter Tryz.func141, Tryz.ntmps141
  go_wp2_with fail
  refine hN.out.mono ?_
  rintro e w1 ⟨rfl, C1, F1⟩
  have HC := Lib.hid C1
  have HF := Lib.hid F1
  obtain ⟨c, hc⟩ : ∃ c, c = w.heap.size := ⟨_, rfl⟩
  rw [← hc] at HC ⊢
  have HCC := Lib.hid hc
  clear C1 F1 hN hc
  go_wp2_with fail
  refine (wholes_any HC.out).mono ?_
  rintro e w2 ⟨hout, F2⟩
  rw [List.drop_zero] at hout
  have G2 := HF.out.trans' F2 (fun i hi e => absurd hi (by rw [e, HCC.out]; exact Nat.lt_irrefl _))
  unfold wholesOut at hout
  have HG := Lib.hid G2
  clear F2 G2 HF
  cases hr : allS l with
  | error x =>
    rw [hr] at hout
    subst hout
    have hx1 : (x == 0) = false := beq_eq_false_iff_ne.2 (allS_pos hr)
    have hs : wholesB l = false := by unfold wholesB; rw [hr]
    have HS := Lib.hid hs
    clear hs hr
    go_wp2_with fail
    go_ret
    exact ⟨by rw [HS.out]; rfl, HG.out⟩
  | ok ls =>
    rw [hr] at hout
    obtain ⟨a, cap, rfl⟩ := hout
    have hs : wholesB l = decide (0 < ls.length) := by unfold wholesB; rw [hr]
    clear hr
    generalize ls.length = n at *
    have HS := Lib.hid hs
    clear hs
    go_wp2_with fail
    go_ret
    exact ⟨by rw [HS.out]; rfl, HG.out⟩
set_option maxRecDepth 20000 in
set_option maxHeartbeats 1000000 in
theorem genCont_any (k : Int) (v : Value) (b : List UInt8) (w : World) (h : Bytes w v b) (hl : b.length ≤ 1099511627776) :
    Calls Tryz.prog 93 #[.int .i64 k, v] w fun e w' => e = .returned (.bool (contB k b)) ∧ Fr (fun _ => False) w w' := by
  have H := Lib.hid h
  obtain ⟨a, cap, rfl, -⟩ := h.form
  clear h
  have hk : (k = 1 ∨ k = 2 ∨ k = 6) ∨ k = 7 ∨ k = 8 ∨ (k = 0 ∨ k = 3 ∨ k = 5) ∨ ((k == 0) = false ∧ (k == 1) = false ∧ (k == 2) = false ∧ (k == 3) = false ∧ (k == 5) = false ∧ (k == 6) = false ∧ (k == 7) = false ∧ (k == 8) = false) := by
    simp only [beq_eq_false_iff_ne]
    omega
  rcases hk with hk | rfl | rfl | hk | ⟨h0, h1, h2, h3, h5, h6, h7, h8⟩
  · have HC := Lib.hid (show contB k b = plainB b from if_pos hk)
    rcases hk with rfl | rfl | rfl
    all_goals
      go_enter Tryz.func93, Tryz.ntmps93
      go_wp2_with fail
      refine (plain_any _ b w H.out).mono ?_
      rintro e w1 ⟨rfl, F1⟩
      go_wp2_with fail
      go_ret
      exact ⟨by rw [HC.out]; rfl, F1⟩
  · have HC := Lib.hid (show contB 7 b = decide (b.length = 4 ∨ b.length = 16) from rfl)
    rcases Nat.decEq b.length 4 with h4 | h4
    · have q1 : ((b.length : Int) == 4) = false := beq_eq_false_iff_ne.2 (by omega)
      have q2 : (b.length == 4) = false := beq_eq_false_iff_ne.2 h4
      rcases Nat.decEq b.length 16 with h16 | h16
      · have q3 : ((b.length : Int) == 16) = false := beq_eq_false_iff_ne.2 (by omega)
        have q4 : (b.length == 16) = false := beq_eq_false_iff_ne.2 h16
        go_enter Tryz.func93, Tryz.ntmps93
        go_wp2_with fail
        go_ret
        exact ⟨by rw [HC.out, decide_eq_false (by omega)]; rfl, Fr.refl _⟩
      · have q3 : ((b.length : Int) == 16) = true := by rw [h16]; rfl
        have q4 : (b.length == 16) = true := by rw [h16]; rfl
        go_enter Tryz.func93, Tryz.ntmps93
        go_wp2_with fail
        go_ret
        exact ⟨by rw [HC.out, decide_eq_true (by omega)]; rfl, Fr.refl _⟩
    · have q1 : ((b.length : Int) == 4) = true := by rw [h4]; rfl
      have q2 : (b.length == 4) = true := by rw [h4]; rfl
      go_enter Tryz.func93, Tryz.ntmps93
      go_wp2_with fail
      go_ret
      exact ⟨by rw [HC.out, decide_eq_true (by omega)]; rfl, Fr.refl _⟩
  · have HC := Lib.hid (show contB 8 b = oidB b from rfl)
    have HO := Lib.hid (oidParse_any _ b w H.out hl)
    go_enter Tryz.func93, Tryz.ntmps93
    go_wp2_with fail
    refine HO.out.mono ?_
    rintro e w1 ⟨hout, F1⟩
    have HF1 := Lib.hid F1
    clear F1 HO
    unfold oidParseOut at hout
    cases hr : oidParseS b with
    | error x =>
      rw [hr] at hout
      subst hout
      have hx1 : (x == 0) = false := beq_eq_false_iff_ne.2 (oidParse_nz hr)
      have HS := Lib.hid (show oidB b = false by unfold oidB; rw [hr])
      clear hr
      go_wp2_with fail
      go_ret
      exact ⟨by rw [HC.out, HS.out]; rfl, HF1.out⟩
    | ok o =>
      rw [hr] at hout
      obtain ⟨ao, co, rfl, -⟩ := hout
      have HS := Lib.hid (show oidB b = true by unfold oidB; rw [hr])
      clear hr
      go_wp2_with fail
      go_ret
      exact ⟨by rw [HC.out, HS.out]; rfl, HF1.out⟩
  · have HC := Lib.hid (show contB k b = wholesB b by
      unfold contB
      rw [if_neg (by omega), if_neg (by omega), if_neg (by omega), if_pos hk])
    rcases hk with rfl | rfl | rfl
    all_goals
      go_enter Tryz.func93, Tryz.ntmps93
      go_wp2_with fail
      refine (wholesG_any _ b w H.out hl).mono ?_
      rintro e w1 ⟨rfl, F1⟩
      go_wp2_with fail
      go_ret
      exact ⟨by rw [HC.out]; rfl, F1⟩
  · have HC := Lib.hid (show contB k b = false by
      simp only [beq_eq_false_iff_ne] at h0 h1 h2 h3 h5 h6 h7 h8
      unfold contB
      rw [if_neg (by omega), if_neg (by omega), if_neg (by omega), if_neg (by omega)])
    go_enter Tryz.func93, Tryz.ntmps93
    go_wp2_with fail
    go_ret
    exact ⟨by rw [HC.out]; rfl, Fr.refl _⟩
end Go.Proofs.YthamenngccaijaaGreatDoor

namespace Go.Proofs.YthamenngccaijaaGreatDoor
open Go Go.RowKit Go.Q
set_option linter.unusedSimpArgs false
set_option maxRecDepth 20000 in
set_option maxHeartbeats 2000000 in
theorem genRight_any (u : Value) (g : Gen) (w : World) (h : GenAt w u g) (hf : fewG g) :
    Calls Tryz.prog 43 #[u] w fun e w' => e = .returned (.bool (genOk g)) ∧ Fr (fun _ => False) w w' := by
  obtain ⟨ab, cb, an, cn, rfl, hb, hn⟩ := h.form
  obtain ⟨k, b, n⟩ := g
  obtain ⟨f1, f2⟩ := hf
  simp only at hb hn f1 f2 ⊢
  have F0 : Fr (fun _ => False) w (w.alloc (.cells #[.int .i64 k, .slice ab b.length cb, .slice an n.length cn] 43)) := (Fr.refl w).alloc _
  have B := Blk.new w 43 #[.int .i64 k, .slice ab b.length cb, .slice an n.length cn]
  obtain ⟨z, hz⟩ : ∃ z, z = w.heap.size := ⟨_, rfl⟩
  rw [← hz] at B
  have HZ := Lib.hid hz
  have HB := Lib.hid (hb.old F0)
  have HN := Lib.hid (hn.old F0)
  have HF0 := Lib.hid F0
  have HF2 := Lib.hid f2
  have hg : genOk ⟨k, b, n⟩ = if k = 4 then decide (b.length = 0) && nameOk n else decide (n.length = 0) && contB k b := rfl
  have HG := Lib.hid hg
  clear h hb hn hz F0 f2 hg
  go_enter Tryz.func43, Tryz.ntmps43
  go_upto_region 1 with fail
  rw [← HZ.out]
  generalize (w.alloc (.cells #[.int .i64 k, .slice ab b.length cb, .slice an n.length cn] 43)) = w0 at *
  have e0 := B.cell 0
  have e1 := B.cell 1
  have e2 := B.cell 2
  simp only [List.getElem?_toArray, List.getElem?_cons_succ, List.getElem?_cons_zero] at e0 e1 e2
  by_cases h4 : k = 4
  · subst h4
    rw [if_pos rfl] at HG
    by_cases h0 : b.length = 0
    · have q1 : ((b.length : Int) == 0) = true := by rw [h0]; rfl
      have q2 : (b.length == 0) = true := by rw [h0]; rfl
      rw [decide_eq_true h0, Bool.true_and] at HG
      have HR := Lib.hid (right_any _ n w0 HN.out HF2.out)
      clear h0
      go_wp2_with fail
      refine HR.out.mono ?_
      rintro e w1 ⟨rfl, F1⟩
      go_wp2_with fail
      go_ret
      exact ⟨by rw [HG.out]; rfl, HF0.out.trans F1⟩
    · have q1 : ((b.length : Int) == 0) = false := beq_eq_false_iff_ne.2 (by omega)
      have q2 : (b.length == 0) = false := beq_eq_false_iff_ne.2 (by omega)
      rw [decide_eq_false h0, Bool.false_and] at HG
      go_wp2_with fail
      go_ret
      exact ⟨by rw [HG.out]; rfl, HF0.out⟩
  · have k4 : (k == 4) = false := beq_eq_false_iff_ne.2 h4
    rw [if_neg h4] at HG
    by_cases h0 : n.length = 0
    · have q1 : ((n.length : Int) == 0) = true := by rw [h0]; rfl
      have q2 : (n.length == 0) = true := by rw [h0]; rfl
      rw [decide_eq_true h0, Bool.true_and] at HG
      have HC := Lib.hid (genCont_any k _ b w0 HB.out (by omega))
      clear h0
      go_wp2_with fail
      refine HC.out.mono ?_
      rintro e w1 ⟨rfl, F1⟩
      go_wp2_with fail
      go_ret
      exact ⟨by rw [HG.out]; rfl, HF0.out.trans F1⟩
    · have q1 : ((n.length : Int) == 0) = false := beq_eq_false_iff_ne.2 (by omega)
      have q2 : (n.length == 0) = false := beq_eq_false_iff_ne.2 (by omega)
      rw [decide_eq_false h0, Bool.false_and] at HG
      go_wp2_with fail
      go_ret
      exact ⟨by rw [HG.out]; rfl, HF0.out⟩
end Go.Proofs.YthamenngccaijaaGreatDoor

namespace Go.Proofs.YthamenngccaijaaGreatDoor
open Go Go.RowKit Go.Q
set_option linter.unusedSimpArgs false
def oidReadOut (w w' : World) (c : Nat) (K : Nat → Prop) (bs : List UInt8) (p : Nat) (r : Except Int (List Int × Nat)) (e : Ending) : Prop :=
  match r with
  | .ok (o, k) => ∃ a cc, e = .returned (.tuple #[.slice a o.length cc, .int .i64 0]) ∧ w'.ownsRow w.heap.size 3 1 (.slice a o.length cc) o.length (intCells o) ∧ CurAt w' c K bs (p + k)
  | .error x => e = .returned (.tuple #[.slice none 0 0, .int .i64 x]) ∧ CurAt w' c K bs p
set_option maxRecDepth 20000 in
set_option maxHeartbeats 2000000 in
theorem oidRead_any {w : World} {c : Nat} {K : Nat → Prop} {bs : List UInt8} {p : Nat} (h : CurAt w c K bs p) :
    Calls Tryz.prog 240 #[pt c] w fun e w' => oidReadOut w w' c K bs p (oidReadS (bs.drop p)) e ∧ Fr (fun k => k = c) w w' := by
  have hcl := h.lt
  have hsm := h.small
  have H := Lib.hid (h.step (K' := fun k => K k ∨ w.heap.size ≤ k) (Fr.refl w) (S := fun _ => False) (fun _ _ h => h.elim) (fun _ h => h))
  have HR := Lib.hid (show oidReadS (bs.drop p) = match openS (tagOf 6) (bs.drop p) with | .error e => .error e | .ok (x, k) => match oidParseS x with | .error e => .error e | .ok o => .ok (o, k) from rfl)
  have HA := Lib.hid (at_any H.out)
  clear h
  go_enter Tryz.func240, Tryz.ntmps240
  go_wp2_with fail
  refine HA.out.mono ?_
  rintro e w0 ⟨rfl, rfl⟩
  clear HA
  go_wp2_with fail
  refine (headOf_any 6 _).mono ?_
  rintro e w1 ⟨rfl, F1⟩
  have HO := Lib.hid (open_any (H.out.old F1) (tagOf 6))
  have HF1 := Lib.hid (F1.mono (T := fun k => k = c) (fun _ _ h => h.elim))
  have hs1 := F1.size
  clear F1
  go_wp2_with fail
  refine HO.out.mono ?_
  rintro e w2 ⟨hout, F2⟩
  have HF2 := Lib.hid (HF1.out.trans F2)
  have hs2 := HF2.out.size
  clear HO H F2 HF1
  unfold OpenOut at hout
  cases ho : openS (tagOf 6) (bs.drop p) with
  | error x =>
    have hx := openS_nz ho
    have hx1 : (x == 0) = false := beq_eq_false_iff_ne.2 hx
    have hx2 : (x != 0) = true := by simpa using hx
    have hr := HR.out
    rw [ho] at hout hr
    obtain ⟨rfl, C2⟩ := hout
    have HC2 := Lib.hid (C2.step (K' := K) (Fr.refl w2) (S := fun _ => False) (fun _ _ h => h.elim) (fun k hk => .inl (.inl hk)))
    have HR2 := Lib.hid hr
    clear ho hr HR C2 hx
    go_wp2_with fail
    refine bodyPost_ret (v := .tuple #[.slice none 0 0, .int .i64 x]) (by simp [results, Tryz.results240, go_sem]) rfl ⟨?_, HF2.out⟩
    rw [HR2.out]
    exact ⟨rfl, HC2.out⟩
  | ok yk =>
    obtain ⟨y, k⟩ := yk
    have hr := HR.out
    rw [ho] at hout hr
    obtain ⟨g, rfl, ⟨hg, hN⟩, C2⟩ := hout
    have hyl : y.length ≤ 16777216 := (open_back ho tag6).2.1
    have HR2 := Lib.hid hr
    have HC2 := Lib.hid C2
    have HRE := Lib.hid (rest_any hN)
    rw [List.drop_zero, Nat.sub_zero] at HRE
    clear ho hr HR C2
    go_wp2_with fail
    refine HRE.out.mono ?_
    rintro e w3 ⟨v, rfl, hown, C3, F3⟩
    have HV := Lib.hid (Vals.of_own hown).1
    obtain ⟨a, m, cap, rfl, rfl⟩ := own_shape hown
    have HC3 := Lib.hid (HC2.out.step (K' := fun k => K k ∨ w.heap.size ≤ k) F3 (fun k _ e => .inr (by omega)) (fun k hk => .inl hk))
    have HF3 := Lib.hid (HF2.out.trans' F3 (fun i hi e => by omega))
    have hs3 := F3.size
    have HP := Lib.hid (oidParse_any _ y w3 HV.out (by omega))
    clear hown C3 F3 HRE HC2 HF2 hN
    go_wp2_with fail
    refine HP.out.mono ?_
    rintro e w4 ⟨hout, F4⟩
    have HC4 := Lib.hid (HC3.out.old F4)
    have HF4 := Lib.hid (HF3.out.trans (F4.mono (fun _ _ h => h.elim)))
    clear F4 HC3 HF3 HP
    unfold oidParseOut at hout
    cases ho : oidParseS y with
    | error x =>
      have hx := oidParse_nz ho
      have hx1 : (x == 0) = false := beq_eq_false_iff_ne.2 hx
      have hx2 : (x != 0) = true := by simpa using hx
      have hr := HR2.out
      rw [ho] at hout
      simp only [ho] at hr
      subst hout
      have HR3 := Lib.hid hr
      have HB := Lib.hid (back_any HC4.out p (by omega))
      clear ho hr hx
      go_wp2_with fail
      refine HB.out.mono ?_
      rintro e w5 ⟨rfl, C5, F5⟩
      have HC5 := Lib.hid (C5.step (K' := K) (Fr.refl w5) (S := fun _ => False) (fun _ _ h => h.elim) (fun k hk => .inl (.inl hk)))
      have HF5 := Lib.hid (HF4.out.trans F5)
      clear C5 F5 HB
      go_wp2_with fail
      refine bodyPost_ret (v := .tuple #[.slice none 0 0, .int .i64 x]) (by simp [results, Tryz.results240, go_sem]) rfl ⟨?_, HF5.out⟩
      rw [HR3.out]
      exact ⟨rfl, HC5.out⟩
    | ok o =>
      have hr := HR2.out
      rw [ho] at hout
      simp only [ho] at hr
      obtain ⟨ao, co, rfl, hown⟩ := hout
      have HR3 := Lib.hid hr
      have HO := Lib.hid (own_le hown (Nat.le_trans hs2 hs3))
      clear ho hr hown
      go_wp2_with fail
      refine bodyPost_ret (v := .tuple #[.slice ao o.length co, .int .i64 0]) (by simp [results, Tryz.results240, go_sem]) rfl ⟨?_, HF4.out⟩
      rw [HR3.out]
      exact ⟨ao, co, rfl, HO.out, HC4.out.step (K' := K) (Fr.refl w4) (S := fun _ => False) (fun _ _ h => h.elim) (fun k hk => .inl (.inl hk))⟩
def valueOut (w w' : World) (c : Nat) (K : Nat → Prop) (bs : List UInt8) (p : Nat) (r : Except Int (Tag × Nat × Nat)) (e : Ending) : Prop :=
  match r with
  | .ok (_, _, n) => ∃ a cc, e = .returned (.tuple #[.slice a n cc, .int .i64 0]) ∧ w'.ownsRow w.heap.size 5 1 (.slice a n cc) n (Lib.byteCells ((bs.drop p).take n)) ∧ CurAt w' c K bs (p + n)
  | .error x => e = .returned (.tuple #[.slice none 0 0, .int .i64 x]) ∧ ∃ q, p ≤ q ∧ CurAt w' c K bs q
set_option maxRecDepth 20000 in
set_option maxHeartbeats 2000000 in
theorem value_any {w : World} {c : Nat} {K : Nat → Prop} {bs : List UInt8} {p : Nat} (h : CurAt w c K bs p) :
    Calls Tryz.prog 241 #[.agg #[pt c]] w fun e w' => valueOut w w' c K bs p (oneS (bs.drop p)) e ∧ Fr (fun k => k = c) w w' := by
  have hcl := h.lt
  have hsm := h.small
  have hle := h.le
  have F0 : Fr (fun _ => False) w (w.alloc (.cells #[pt c] 165)) := (Fr.refl w).alloc _
  have B0 := Blk.new w 165 #[pt c]
  have H := Lib.hid (h.step (K' := fun k => K k ∨ w.heap.size ≤ k) F0 (fun _ _ h => h.elim) (fun _ h => h))
  have HF0 := Lib.hid (F0.mono (T := fun k => k = c) (fun _ _ h => h.elim))
  obtain ⟨b0, hb0⟩ : ∃ b0, b0 = w.heap.size := ⟨_, rfl⟩
  have hbc : b0 ≠ c := by omega
  rw [← hb0] at B0
  have HBB := Lib.hid B0
  have e0 : (w.alloc (.cells #[pt c] 165)).cell? ⟨b0, 0, none⟩ = some (pt c) := B0.cell 0
  have HB0 := Lib.hid hb0
  have HA := Lib.hid (at_any H.out)
  have HRD := Lib.hid (headRead_any H.out)
  clear h F0 B0 hb0
  go_enter Tryz.func241, Tryz.ntmps241
  go_upto_region 1 with fail
  rw [← HB0.out]
  generalize hw0 : (w.alloc (.cells #[pt c] 165)) = w0 at *
  clear hw0
  go_wp2_with fail
  refine HA.out.mono ?_
  rintro e w0' ⟨rfl, rfl⟩
  clear HA
  go_wp2_with fail
  refine HRD.out.mono ?_
  rintro e w1 ⟨⟨⟨tc, tn, tm⟩, n, x, rfl, ht⟩, C1, F1⟩
  rw [show tagV ⟨tc, tn, tm⟩ = .agg #[.int .i64 tc, .int .i64 tn, .bool tm] from rfl]
  have HT := Lib.hid ht
  have F2 : Fr (fun _ => False) w1 (w1.alloc (.cells #[.int .i64 tc, .int .i64 tn, .bool tm] 97)) := (Fr.refl w1).alloc _
  have HC2 := Lib.hid (C1.old F2)
  have HF2 := Lib.hid ((HF0.out.trans F1).trans (F2.mono (T := fun k => k = c) (fun _ _ h => h.elim)))
  replace e0 := ((HBB.out.fr F1 hbc).fr F2 (fun h => h)).cell 0
  simp at e0
  clear ht C1 F1 F2 HRD HF0 H
  go_upto_region 3 with fail
  generalize (w1.alloc (.cells #[.int .i64 tc, .int .i64 tn, .bool tm] 97)) = w2 at *
  by_cases hx : x = 0
  · subst hx
    have hok : ∃ u k, readS (bs.drop p) = .ok (u, n, k) := by
      have ht := HT.out
      cases hr : readS (bs.drop p) with
      | error e => rw [hr] at ht; exact absurd ht.symm (readS_err hr)
      | ok vk => obtain ⟨v, m, k⟩ := vk; rw [hr] at ht; exact ⟨v, k, by rw [ht.2.1]⟩
    obtain ⟨u, k, hk⟩ := hok
    have hkl := (readS_le hk)
    rw [List.length_drop] at hkl
    have hc := HC2.out
    rw [hk] at hc
    have HC : Hid (CurAt w2 c (fun k => K k ∨ w.heap.size ≤ k) bs (p + k)) := Lib.hid hc
    have HL := Lib.hid (left_any HC.out)
    have HK := Lib.hid hk
    have hkk : p + k ≤ bs.length := by omega
    have hn16 := hkl.2
    clear hk hc HC2 HT hkl
    go_wp2_with fail
    refine HL.out.mono ?_
    rintro e w3 ⟨rfl, F3⟩
    have HC3 := Lib.hid (HC.out.old F3)
    have HF3 := Lib.hid (HF2.out.trans (F3.mono (T := fun k => k = c) (fun _ _ h => h.elim)))
    replace e0 := F3.cell e0 (fun h => h)
    clear F3 HL HC HF2
    by_cases hn : n ≤ bs.length - (p + k)
    · have q1 : ¬ ((bs.length - (p + k) : Nat) : Int) < (n : Int) := by omega
      have q2 : ¬ bs.length - (p + k) < n := by omega
      have HO := Lib.hid (oneOk HK.out (by rw [List.length_drop]; omega))
      have HA := Lib.hid (at_any HC3.out)
      have hkn : k + n ≤ bs.length - p := by omega
      have HKN := Lib.hid hkn
      have hkn2 : k + n ≤ 1099511627776 := by omega
      clear hkn
      generalize bs.length - (p + k) = lq at *
      go_wp2_with fail
      refine HA.out.mono ?_
      rintro e w0' ⟨rfl, rfl⟩
      have hw1 : wrap64 (((p + k : Nat) : Int) - (p : Int)) = (k : Int) := by unfold wrap64; omega
      have HB := Lib.hid (back_any HC3.out p (by omega))
      generalize ((p + k : Nat) : Int) = pk at *
      go_upto_region 8 with fail
      simp only [hw1]
      clear hw1
      go_wp2_with fail
      refine HB.out.mono ?_
      rintro e w4 ⟨rfl, C4, F4⟩
      have HTK := Lib.hid (take_ok C4 (k + n) HKN.out)
      rw [Int.natCast_add] at HTK
      have HF4 := Lib.hid (HF3.out.trans F4)
      have hs4 := HF4.out.size
      replace e0 := F4.cell e0 hbc
      have b1 : (0 : Int) ≤ (k : Int) + (n : Int) := by omega
      have b2 : (k : Int) + (n : Int) ≤ 1099511627776 := by omega
      clear C4 F4 HB HC3 HF3 HA
      go_wp2_with fail
      refine HTK.out.mono ?_
      rintro e w5 ⟨v, rfl, hown, C5, F5⟩
      obtain ⟨a, m, cap, rfl, rfl⟩ := own_shape hown
      have HOW := Lib.hid (own_le hown hs4)
      have HC := Lib.hid (C5.step (K' := K) (Fr.refl w5) (S := fun _ => False) (fun _ _ h => h.elim) (fun k hk => .inl (.inl hk)))
      have HF5 := Lib.hid (HF4.out.trans F5)
      clear hown C5 F5 HTK HF4
      go_wp2_with fail
      refine bodyPost_ret (v := .tuple #[.slice a (k + n) cap, .int .i64 0]) (by simp [results, Tryz.results241, go_sem]) rfl ⟨?_, HF5.out⟩
      rw [HO.out]
      exact ⟨a, cap, rfl, HOW.out, HC.out⟩
    · have HO := Lib.hid (oneEnd HK.out (by rw [List.length_drop]; omega))
      have q1 : ((bs.length - (p + k) : Nat) : Int) < (n : Int) := by omega
      have q2 : bs.length - (p + k) < n := by omega
      have HC := Lib.hid (HC3.out.step (K' := K) (Fr.refl w3) (S := fun _ => False) (fun _ _ h => h.elim) (fun k hk => .inl (.inl hk)))
      generalize bs.length - (p + k) = lq at *
      go_wp2_with fail
      refine bodyPost_ret (v := .tuple #[.slice none 0 0, .int .i64 3]) (by simp [results, Tryz.results241, go_sem]) rfl ⟨?_, HF3.out⟩
      rw [HO.out]
      exact ⟨rfl, _, Nat.le_add_right p k, HC.out⟩
  · have hx1 : (x == 0) = false := beq_eq_false_iff_ne.2 hx
    have hx2 : (x != 0) = true := by simpa using hx
    have herr : readS (bs.drop p) = .error x := by
      have ht := HT.out
      cases hr : readS (bs.drop p) with
      | error e => rw [hr] at ht; rw [show x = e from ht]
      | ok vk => obtain ⟨v, m, k⟩ := vk; rw [hr] at ht; exact absurd ht.2.2 hx
    have hc := HC2.out
    rw [herr] at hc
    have HO := Lib.hid (oneE herr)
    have HC := Lib.hid (hc.step (K' := K) (Fr.refl w2) (S := fun _ => False) (fun _ _ h => h.elim) (fun k hk => .inl (.inl hk)))
    clear herr hc
    go_wp2_with fail
    refine bodyPost_ret (v := .tuple #[.slice none 0 0, .int .i64 x]) (by simp [results, Tryz.results241, go_sem]) rfl ⟨?_, HF2.out⟩
    rw [HO.out]
    exact ⟨rfl, p, Nat.le_refl _, HC.out⟩
end Go.Proofs.YthamenngccaijaaGreatDoor

namespace Go.Q
open Go Go.RowKit
theorem own_kept' {w : World} {base n : Nat} {e : TypeId} {v : Value} {xs : List Value} (h : w.ownsRow base e 1 v n xs) (K : Nat → Prop) (hK : ∀ k, K k → k < base) : Kept (fun W => Vals W v xs) K w := fun W f =>
  (Vals.of_own (Go.Proofs.YthamenngccaijaaGreatDoor.ownsRow_fr h f (fun k hk hs => by have := ((Vals.of_own h).2 k hk).1; have := hK k hs; omega))).1
theorem partRead_e1 {l : List UInt8} {x : Int} (h : openS (tagOf 16) l = .error x) : partReadS l = .error x := by unfold partReadS; rw [h]
theorem partRead_e2 {l y : List UInt8} {m : Nat} {x : Int} (h : openS (tagOf 16) l = .ok (y, m)) (h2 : oidReadS y = .error x) : partReadS l = .error x := by unfold partReadS; rw [h]; simp only [h2]
theorem partRead_e3 {l y : List UInt8} {m q : Nat} {o : List Int} {x : Int} (h : openS (tagOf 16) l = .ok (y, m)) (h2 : oidReadS y = .ok (o, q)) (h3 : oneS (y.drop q) = .error x) : partReadS l = .error x := by unfold partReadS; rw [h]; simp only [h2, h3]
theorem partRead_ok {l y : List UInt8} {m q k n : Nat} {o : List Int} {t : Tag} (h : openS (tagOf 16) l = .ok (y, m)) (h2 : oidReadS y = .ok (o, q)) (h3 : oneS (y.drop q) = .ok (t, k, n)) : partReadS l = if n < y.length - q then .error 7 else .ok (⟨o, y.drop q⟩, m) := by unfold partReadS; rw [h]; simp only [h2, h3]
theorem oneS_le {l : List UInt8} {t : Tag} {k n : Nat} (h : oneS l = .ok (t, k, n)) : n ≤ l.length := by
  unfold oneS at h
  split at h
  · cases h
  · rename_i u n' k' hr
    have := readS_le hr
    split at h
    · cases h
    · simp only [Except.ok.injEq, Prod.mk.injEq] at h
      omega
end Go.Q
namespace Go.Proofs.YthamenngccaijaaGreatDoor
open Go Go.RowKit Go.Q
set_option linter.unusedSimpArgs false
def attrOut (w w' : World) (c : Nat) (K : Nat → Prop) (bs : List UInt8) (p : Nat) (r : Except Int (Part × Nat)) (e : Ending) : Prop :=
  match r with
  | .ok (q, m) => ∃ ao co av cv, e = .returned (.tuple #[.agg #[.slice ao q.o.length co, .slice av q.b.length cv], .int .i64 0]) ∧ Kept (fun W => Ints W (.slice ao q.o.length co) q.o ∧ Bytes W (.slice av q.b.length cv) q.b) (fun k => k < w.heap.size) w' ∧ CurAt w' c K bs (p + m)
  | .error x => e = .returned (.tuple #[.agg #[.slice none 0 0, .slice none 0 0], .int .i64 x]) ∧ x ≠ 0 ∧ ∃ q, p ≤ q ∧ CurAt w' c K bs q
set_option maxRecDepth 20000 in
set_option maxHeartbeats 4000000 in
theorem attr_any {w : World} {c : Nat} {K : Nat → Prop} {bs : List UInt8} {p : Nat} (h : CurAt w c K bs p) :
    Calls Tryz.prog 191 #[.agg #[pt c]] w fun e w' => attrOut w w' c K bs p (partReadS (bs.drop p)) e ∧ Fr (fun k => k = c) w w' := by
  have hcl := h.lt
  obtain ⟨b0, hb0⟩ : ∃ b0, b0 = w.heap.size := ⟨_, rfl⟩
  have F0 : Fr (fun _ => False) w ((w.alloc (.cells #[pt c] 165)).alloc (.cells #[.slice none 0 0, .slice none 0 0] 108)) := ((Fr.refl w).alloc _).alloc _
  have B0 := (Blk.new w 165 #[pt c]).alloc (.cells #[.slice none 0 0, .slice none 0 0] 108)
  have BR := Blk.new (w.alloc (.cells #[pt c] 165)) 108 #[.slice none 0 0, .slice none 0 0]
  rw [World.size_alloc] at BR
  have H := Lib.hid (h.step (K' := fun k => K k ∨ w.heap.size ≤ k) F0 (fun _ _ h => h.elim) (fun _ h => h))
  rw [← hb0] at B0 BR
  have hbc : b0 ≠ c := by omega
  have hrc : b0 + 1 ≠ c := by omega
  have HB0 := Lib.hid hb0
  clear h hb0
  go_enter Tryz.func191, Tryz.ntmps191
  go_upto_region 1 with fail
  rw [← HB0.out]
  generalize ((w.alloc (.cells #[pt c] 165)).alloc (.cells #[.slice none 0 0, .slice none 0 0] 108)) = w0 at *
  have hs0 := F0.size
  have hrl := BR.lt
  have HF0 := Lib.hid (F0.mono (T := fun k => k = c) (fun _ _ h => h.elim)).drew
  have HBR := Lib.hid BR.drew
  have HH := Lib.hid (H.out.old (Fr.refl w0).drew)
  have e0 : w0.drew.cell? ⟨b0, 0, none⟩ = some (pt c) := B0.cell 0
  have hd0 : w0.drew.heap.size = w0.heap.size := rfl
  clear F0 B0 BR H
  cases ho : openS (tagOf 16) (bs.drop p) with
  | error x =>
    have hx := openS_nz ho
    have hx1 : (x == 0) = false := beq_eq_false_iff_ne.2 hx
    have hx2 : (x != 0) = true := by simpa using hx
    have HP := Lib.hid (partRead_e1 ho)
    have HX := Lib.hid hx
    have HE := Lib.hid (fun w1 (C : CurAt w1 c (fun k => K k ∨ w.heap.size ≤ k) bs p) => open_err C (tagOf 16) ho)
    clear ho hx
    go_region_held3 (fun w' => w'.cell? ⟨b0, 0, none⟩ = some (pt c)) (exact e0) (first
      | (go_at_call 56; refine (headOf_any 16 _).mono ?_; rintro e w1 ⟨rfl, F1⟩; replace e0 := F1.cell e0 (fun h => h); have HO := Lib.hid (HE.out w1 (HH.out.old F1)))
      | (go_at_call 81; refine HO.out.mono ?_; rintro e w2 ⟨rfl, C2, F2⟩; replace e0 := F2.cell e0 hbc))
    have BR := (HBR.out.fr F1 (fun h => h)).fr F2 hrc
    have HF2 := Lib.hid ((HF0.out.trans (F1.mono (fun _ _ h => h.elim))).trans F2)
    have HC2 := Lib.hid C2
    have SR := BR.cell
    have ZR := BR.frozen
    clear C2 F2 F1 HO HE HH HBR
    go_wp2_with fail
    obtain ⟨B5, F5⟩ := set2 BR (.slice none 0 0) (.slice none 0 0)
    have hb := HB0.out
    have C5 := HC2.out.step (K' := K) F5 (fun k _ e => .inr (by omega)) (fun _ h => .inl (.inl h))
    have G5 := HF2.out.trans' F5 (fun k hk e => by omega)
    generalize ((w2.setCell ⟨b0 + 1, 0, none⟩ (.slice none 0 0)).setCell ⟨b0 + 1, 1, none⟩ (.slice none 0 0)) = w9 at *
    have n0 := B5.cell 0
    have n1 := B5.cell 1
    simp at n0 n1
    refine bodyPost_ret (v := .tuple #[.agg #[.slice none 0 0, .slice none 0 0], .int .i64 x]) (by simp [results, Tryz.results191, go_sem, n0, n1]) rfl ⟨?_, G5⟩
    rw [HP.out]
    exact ⟨rfl, HX.out, p, Nat.le_refl _, C5⟩
  | ok ym =>
    obtain ⟨y, m⟩ := ym
    have HP := Lib.hid ho
    have HE := Lib.hid (fun w1 (C : CurAt w1 c (fun k => K k ∨ w.heap.size ≤ k) bs p) => open_on C (tagOf 16) ho)
    clear ho
    go_region_held3 (fun w' => w'.cell? ⟨b0, 0, none⟩ = some (pt c)) (exact e0) (first
      | (go_at_call 56; refine (headOf_any 16 _).mono ?_; rintro e w1 ⟨rfl, F1⟩; replace e0 := F1.cell e0 (fun h => h); have HO := Lib.hid (HE.out w1 (HH.out.old F1)))
      | (go_at_call 81; refine HO.out.mono ?_; rintro e w2 ⟨⟨g, rfl, ⟨hg, hN⟩, C2⟩, F2⟩; replace e0 := F2.cell e0 hbc))
    have HBR2 := Lib.hid ((HBR.out.fr F1 (fun h => h)).fr F2 hrc)
    have HF2 := Lib.hid ((HF0.out.trans (F1.mono (fun _ _ h => h.elim))).trans F2)
    have HC2 := Lib.hid C2
    have hs1 := F1.size
    have hs2 := F2.size
    rw [hd0] at hs1
    have HN := Lib.hid (hN.step (K' := fun k => k < w1.heap.size ∨ w2.heap.size ≤ k) (Fr.refl w2) (S := fun _ => False) (fun _ _ h => h.elim) (fun _ h => h))
    have hgl := hN.lt
    have HOR := Lib.hid (oidRead_any HN.out)
    rw [List.drop_zero] at HOR
    clear C2 F2 F1 HO HE HH HBR hN
    go_wp2_with fail
    refine HOR.out.mono ?_
    rintro e w3 ⟨hout, F3⟩
    have HF3 := Lib.hid (HF2.out.trans' F3 (fun i hi e => by omega))
    have hrc2 : b0 + 1 ≠ g := by omega
    have HBR3 := Lib.hid (HBR2.out.fr F3 hrc2)
    have HC3 := Lib.hid (HC2.out.step (K' := fun k => K k ∨ w.heap.size ≤ k) F3 (fun k _ e => .inr (by omega)) (fun _ h => .inl h))
    have hs3 := F3.size
    clear F3 HF2 HBR2 HC2 HOR HN
    unfold oidReadOut at hout
    cases ho : oidReadS y with
    | error x =>
      rw [ho] at hout
      obtain ⟨rfl, -⟩ := hout
      have hx := oidRead_nz ho
      have hx1 : (x == 0) = false := beq_eq_false_iff_ne.2 hx
      have hx2 : (x != 0) = true := by simpa using hx
      have HP2 := Lib.hid (partRead_e2 HP.out ho)
      have HX := Lib.hid hx
      have BR := HBR3.out
      have SR := BR.cell
      have ZR := BR.frozen
      clear ho hx
      go_wp2_with fail
      obtain ⟨B5, F5⟩ := set2 BR (.slice none 0 0) (.slice none 0 0)
      have hb := HB0.out
      have C5 := HC3.out.step (K' := K) F5 (fun k _ e => .inr (by omega)) (fun _ h => .inl (.inl h))
      have G5 := HF3.out.trans' F5 (fun k hk e => by omega)
      generalize ((w3.setCell ⟨b0 + 1, 0, none⟩ (.slice none 0 0)).setCell ⟨b0 + 1, 1, none⟩ (.slice none 0 0)) = w9 at *
      have n0 := B5.cell 0
      have n1 := B5.cell 1
      simp at n0 n1
      refine bodyPost_ret (v := .tuple #[.agg #[.slice none 0 0, .slice none 0 0], .int .i64 x]) (by simp [results, Tryz.results191, go_sem, n0, n1]) rfl ⟨?_, G5⟩
      rw [HP2.out]
      exact ⟨rfl, HX.out, _, Nat.le_add_right p m, C5⟩
    | ok oq =>
      obtain ⟨o, q⟩ := oq
      rw [ho] at hout
      obtain ⟨ao, co, rfl, hown, C3⟩ := hout
      rw [Nat.zero_add] at C3
      have HQ := Lib.hid ho
      have HOW := Lib.hid hown
      have HVL := Lib.hid (value_any C3)
      clear ho hown C3
      go_wp2_with fail
      refine HVL.out.mono ?_
      rintro e w4 ⟨hout, F4⟩
      have HF4 := Lib.hid (HF3.out.trans' F4 (fun i hi e => by omega))
      have HBR4 := Lib.hid (HBR3.out.fr F4 hrc2)
      have HC4 := Lib.hid (HC3.out.step (K' := fun k => K k ∨ w.heap.size ≤ k) F4 (fun k _ e => .inr (by omega)) (fun _ h => .inl h))
      have HOW4 := Lib.hid (ownsRow_fr HOW.out F4 (fun k hk e => by have := ((Vals.of_own HOW.out).2 k hk).1; omega))
      have hs4 := F4.size
      clear F4 HF3 HBR3 HC3 HOW HVL
      unfold valueOut at hout
      cases hv : oneS (y.drop q) with
      | error x =>
        rw [hv] at hout
        obtain ⟨rfl, -⟩ := hout
        have hx := oneS_nz hv
        have hx1 : (x == 0) = false := beq_eq_false_iff_ne.2 hx
        have hx2 : (x != 0) = true := by simpa using hx
        have HP2 := Lib.hid (partRead_e3 HP.out HQ.out hv)
        have HX := Lib.hid hx
        have BR := HBR4.out
        have SR := BR.cell
        have ZR := BR.frozen
        clear hv hx
        go_wp2_with fail
        obtain ⟨B5, F5⟩ := set2 BR (.slice none 0 0) (.slice none 0 0)
        have hb := HB0.out
        have C5 := HC4.out.step (K' := K) F5 (fun k _ e => .inr (by omega)) (fun _ h => .inl (.inl h))
        have G5 := HF4.out.trans' F5 (fun k hk e => by omega)
        generalize ((w4.setCell ⟨b0 + 1, 0, none⟩ (.slice none 0 0)).setCell ⟨b0 + 1, 1, none⟩ (.slice none 0 0)) = w9 at *
        have n0 := B5.cell 0
        have n1 := B5.cell 1
        simp at n0 n1
        refine bodyPost_ret (v := .tuple #[.agg #[.slice none 0 0, .slice none 0 0], .int .i64 x]) (by simp [results, Tryz.results191, go_sem, n0, n1]) rfl ⟨?_, G5⟩
        rw [HP2.out]
        exact ⟨rfl, HX.out, _, Nat.le_add_right p m, C5⟩
      | ok tkn =>
        obtain ⟨t, k, n⟩ := tkn
        rw [hv] at hout
        obtain ⟨av, cv, rfl, hownv, C4⟩ := hout
        have hpr := partRead_ok HP.out HQ.out hv
        have hnl := oneS_le hv
        rw [List.length_drop] at hnl
        have HPR := Lib.hid hpr
        have HOV := Lib.hid hownv
        have HL := Lib.hid (left_any C4)
        have hql := C4.le
        clear hv hownv hpr C4
        go_wp2_with fail
        refine HL.out.mono ?_
        rintro e w5 ⟨rfl, F5⟩
        have HF5 := Lib.hid (HF4.out.trans (F5.mono (fun _ _ h => h.elim)))
        have BR := HBR4.out.fr F5 (fun h => h)
        have HC5 := Lib.hid (HC4.out.old F5)
        have HOW5 := Lib.hid (ownsRow_fr HOW4.out F5 (fun _ _ h => h))
        have HOV5 := Lib.hid (ownsRow_fr HOV.out F5 (fun _ _ h => h))
        have SR := BR.cell
        have ZR := BR.frozen
        have hs5 := F5.size
        clear F5 HF4 HBR4 HC4 HOW4 HOV HL
        by_cases hn : n < y.length - q
        · have q1 : (0 : Int) < ((y.length - (q + n) : Nat) : Int) := by omega
          have hp := HPR.out
          rw [if_pos hn] at hp
          have HP2 := Lib.hid hp
          clear hp HPR hn
          go_wp2_with fail
          obtain ⟨B5, F5⟩ := set2 BR (.slice none 0 0) (.slice none 0 0)
          have hb := HB0.out
          have C5 := HC5.out.step (K' := K) F5 (fun k _ e => .inr (by omega)) (fun _ h => .inl (.inl h))
          have G5 := HF5.out.trans' F5 (fun k hk e => by omega)
          generalize ((w5.setCell ⟨b0 + 1, 0, none⟩ (.slice none 0 0)).setCell ⟨b0 + 1, 1, none⟩ (.slice none 0 0)) = w9 at *
          have n0 := B5.cell 0
          have n1 := B5.cell 1
          simp at n0 n1
          refine bodyPost_ret (v := .tuple #[.agg #[.slice none 0 0, .slice none 0 0], .int .i64 7]) (by simp [results, Tryz.results191, go_sem, n0, n1]) rfl ⟨?_, G5⟩
          rw [HP2.out]
          exact ⟨rfl, by decide, _, Nat.le_add_right p m, C5⟩
        · have hyn : y.length - (q + n) = 0 := by omega
          have hp := HPR.out
          rw [if_neg hn] at hp
          have HP2 := Lib.hid hp
          have hyq : n = (y.drop q).length := by rw [List.length_drop]; omega
          have HYQ := Lib.hid hyq
          simp only [hyn]
          clear hp HPR hn hyn hyq
          go_wp2_with fail
          obtain ⟨B5, F5⟩ := set2 BR (.slice ao o.length co) (.slice av n cv)
          have hb := HB0.out
          have C5 := HC5.out.step (K' := K) F5 (fun k _ e => .inr (by omega)) (fun _ h => .inl (.inl h))
          have G5 := HF5.out.trans' F5 (fun k hk e => by omega)
          have k1 := own_kept' (ownsRow_fr HOW5.out F5 (fun k hk e => by have := ((Vals.of_own HOW5.out).2 k hk).1; omega)) (fun k => k < w.heap.size) (fun k hk => by omega)
          have k2 := own_kept' (ownsRow_fr HOV5.out F5 (fun k hk e => by have := ((Vals.of_own HOV5.out).2 k hk).1; omega)) (fun k => k < w.heap.size) (fun k hk => by omega)
          generalize ((w5.setCell ⟨b0 + 1, 0, none⟩ (.slice ao o.length co)).setCell ⟨b0 + 1, 1, none⟩ (.slice av n cv)) = w9 at *
          have n0 := B5.cell 0
          have n1 := B5.cell 1
          simp at n0 n1
          have hyq := HYQ.out
          rw [List.take_of_length_le (by omega)] at k2
          subst hyq
          refine bodyPost_ret (v := .tuple #[.agg #[.slice ao o.length co, .slice av (y.drop q).length cv], .int .i64 0]) (by simp [results, Tryz.results191, go_sem, n0, n1]) rfl ⟨?_, G5⟩
          rw [HP2.out]
          exact ⟨ao, co, av, cv, rfl, k1.both k2, C5⟩
end Go.Proofs.YthamenngccaijaaGreatDoor

namespace Go.Q
open Go Go.RowKit
theorem cmpS_three : ∀ a b : List UInt8, cmpS a b = -1 ∨ cmpS a b = 0 ∨ cmpS a b = 1
  | [], [] => .inr (.inl rfl)
  | [], _ :: _ => .inl rfl
  | _ :: _, [] => .inr (.inr rfl)
  | x :: a, y :: b => by
    simp only [cmpS]
    split
    · exact cmpS_three a b
    · split
      · exact .inl rfl
      · exact .inr (.inr rfl)
theorem rdnRead_e1 {l : List UInt8} {x : Int} (h : openS (tagOf 17) l = .error x) : rdnReadS l = .error x := by unfold rdnReadS; rw [h]
theorem rdnRead_e2 {l y : List UInt8} {k : Nat} {x : Int} (h : openS (tagOf 17) l = .ok (y, k)) (h2 : rdnSt [] [] y = .error x) : rdnReadS l = .error x := by unfold rdnReadS; rw [h]; simp only [h2]
theorem rdnRead_ok {l y : List UInt8} {k : Nat} {r : List Part} (h : openS (tagOf 17) l = .ok (y, k)) (h2 : rdnSt [] [] y = .ok r) : rdnReadS l = .ok (r, k) := by unfold rdnReadS; rw [h]; simp only [h2]
theorem drop_ne {l : List UInt8} {q : Nat} (h : q < l.length) : l.drop q ≠ [] := by
  intro e
  have := congrArg List.length e
  rw [List.length_drop, List.length_nil] at this
  omega
end Go.Q
namespace Go.Proofs.YthamenngccaijaaGreatDoor
open Go Go.RowKit Go.Q
set_option linter.unusedSimpArgs false
def rdnOut (w w' : World) (c : Nat) (K : Nat → Prop) (bs : List UInt8) (p : Nat) (r : Except Int (List Part × Nat)) (e : Ending) : Prop :=
  match r with
  | .ok (l, m) => ∃ a cc, e = .returned (.tuple #[.slice a l.length cc, .int .i64 0]) ∧ Kept (fun W => Attrs W (.slice a l.length cc) l) (fun k => k < w.heap.size) w' ∧ CurAt w' c K bs (p + m)
  | .error x => e = .returned (.tuple #[.slice none 0 0, .int .i64 x]) ∧ x ≠ 0 ∧ ∃ q, p ≤ q ∧ CurAt w' c K bs q
set_option maxRecDepth 20000 in
set_option maxHeartbeats 4000000 in
theorem rdn_any {w : World} {c : Nat} {K : Nat → Prop} {bs : List UInt8} {p : Nat} (h : CurAt w c K bs p) (hbs : bs.length ≤ 10000000) :
    Calls Tryz.prog 150 #[.agg #[pt c]] w fun e w' => rdnOut w w' c K bs p (rdnReadS (bs.drop p)) e ∧ Fr (fun k => k = c) w w' := by
  have hcl := h.lt
  obtain ⟨b0, hb0⟩ : ∃ b0, b0 = w.heap.size := ⟨_, rfl⟩
  have F0 : Fr (fun _ => False) w (w.alloc (.cells #[pt c] 165)) := (Fr.refl w).alloc _
  have B0 := Blk.new w 165 #[pt c]
  have H := Lib.hid (h.step (K' := fun k => K k ∨ w.heap.size ≤ k) F0 (fun _ _ h => h.elim) (fun _ h => h))
  rw [← hb0] at B0
  have hbc : b0 ≠ c := by omega
  have HB0 := Lib.hid hb0
  clear h hb0
  go_enter Tryz.func150, Tryz.ntmps150
  go_upto_region 1 with fail
  rw [← HB0.out]
  generalize (w.alloc (.cells #[pt c] 165)) = w0 at *
  have hs0 := F0.size
  have HF0 := Lib.hid (F0.mono (T := fun k => k = c) (fun _ _ h => h.elim)).drew
  have HH := Lib.hid (H.out.old (Fr.refl w0).drew)
  have e0 : w0.drew.cell? ⟨b0, 0, none⟩ = some (pt c) := B0.cell 0
  have hd0 : w0.drew.heap.size = w0.heap.size := rfl
  clear F0 B0 H
  cases ho : openS (tagOf 17) (bs.drop p) with
  | error x =>
    have hx := openS_nz ho
    have hx1 : (x == 0) = false := beq_eq_false_iff_ne.2 hx
    have hx2 : (x != 0) = true := by simpa using hx
    have HP := Lib.hid (rdnRead_e1 ho)
    have HX := Lib.hid hx
    have HE := Lib.hid (fun w1 (C : CurAt w1 c (fun k => K k ∨ w.heap.size ≤ k) bs p) => open_err C (tagOf 17) ho)
    clear ho hx
    go_region_held3 (fun w' => w'.cell? ⟨b0, 0, none⟩ = some (pt c)) (exact e0) (first
      | (go_at_call 56; refine (headOf_any 17 _).mono ?_; rintro e w1 ⟨rfl, F1⟩; replace e0 := F1.cell e0 (fun h => h); have HO := Lib.hid (HE.out w1 (HH.out.old F1)))
      | (go_at_call 81; refine HO.out.mono ?_; rintro e w2 ⟨rfl, C2, F2⟩; replace e0 := F2.cell e0 hbc))
    have HF2 := Lib.hid ((HF0.out.trans (F1.mono (fun _ _ h => h.elim))).trans F2)
    have HC2 := Lib.hid C2
    clear C2 F2 F1 HO HE HH
    go_wp2_with fail
    refine bodyPost_ret (v := .tuple #[.slice none 0 0, .int .i64 x]) (by simp [results, Tryz.results150, go_sem]) rfl ⟨?_, HF2.out⟩
    rw [HP.out]
    exact ⟨rfl, HX.out, p, Nat.le_refl _, HC2.out.step (K' := K) (Fr.refl w2) (S := fun _ => False) (fun _ _ h => h.elim) (fun k hk => .inl (.inl hk))⟩
  | ok ym =>
    obtain ⟨y, m⟩ := ym
    obtain ⟨-, -, hob3, hob4⟩ := open_back ho tag17
    rw [List.length_drop] at hob3
    have hyl : y.length ≤ 10000000 := by omega
    have HP := Lib.hid ho
    have HE := Lib.hid (fun w1 (C : CurAt w1 c (fun k => K k ∨ w.heap.size ≤ k) bs p) => open_on C (tagOf 17) ho)
    clear ho hob3 hob4 hbs
    go_region_held3 (fun w' => w'.cell? ⟨b0, 0, none⟩ = some (pt c)) (exact e0) (first
      | (go_at_call 56; refine (headOf_any 17 _).mono ?_; rintro e w1 ⟨rfl, F1⟩; replace e0 := F1.cell e0 (fun h => h); have HO := Lib.hid (HE.out w1 (HH.out.old F1)))
      | (go_at_call 81; refine HO.out.mono ?_; rintro e w2 ⟨⟨g, rfl, ⟨hg, hN⟩, C2⟩, F2⟩; replace e0 := F2.cell e0 hbc))
    have HF2 := Lib.hid ((HF0.out.trans (F1.mono (fun _ _ h => h.elim))).trans F2)
    have HC2 := Lib.hid C2
    have hs1 := F1.size
    have hs2 := F2.size
    rw [hd0] at hs1
    have HN := Lib.hid (hN.step (K' := fun k => k < w1.heap.size ∨ w2.heap.size ≤ k) (Fr.refl w2) (S := fun _ => False) (fun _ _ h => h.elim) (fun _ h => h))
    have hgl := hN.lt
    clear C2 F2 F1 HO HE HH hN e0 hd0
    go_wp2_with fail
    go_loopg [6, 7] y.length (fun gk u lv wr => ∃ (l : List Part) (lst : List UInt8) (q : Nat) (a : Option Addr) (cc : Nat), gk = y.length - q ∧ q ≤ y.length ∧ l.length ≤ 16 ∧ u = .slice a l.length cc ∧ GRow 2 RPart (fun k => k < w2.heap.size) 108 wr w2.heap.size (.slice a l.length cc) l ∧ Kept (fun W => Bytes W lv lst) (fun k => k < w2.heap.size) wr ∧ lst.length ≤ 1099511627776 ∧ CurAt wr g (fun k => k < w1.heap.size ∨ w2.heap.size ≤ k) y q ∧ CurAt wr c (fun k => K k ∨ w.heap.size ≤ k) bs (p + m) ∧ Fr (fun k => k = c) w wr ∧ w2.heap.size ≤ wr.heap.size ∧ rdnSt [] [] y = rdnSt l lst (y.drop q))
    case atStart => exact ⟨[], [], 0, none, 0, rfl, Nat.zero_le _, by simp, rfl, GRow.nil _ _ _ _ _ _, fun W _ => Vals.nil W, by simp, HN.out, HC2.out, HF2.out, Nat.le_refl _, rfl⟩
    case round =>
      obtain ⟨l, lst, q, a, cc, hgk, hq, hl16, rfl, hrow, hlst, hlsl, hC, hCc, hF, hsz, hR⟩ := hrel
      have HG := Lib.hid hgk
      have HRW := Lib.hid hrow
      have HLS := Lib.hid hlst
      have HCC := Lib.hid hC
      have HCC2 := Lib.hid hCc
      have HF := Lib.hid hF
      have HR := Lib.hid hR
      have HL := Lib.hid (left_any hC)
      clear hgk hrow hlst hC hCc hF hR HC2 HF2 HN
      by_cases hql : q < y.length
      · obtain ⟨lq, hlq⟩ : ∃ lq, lq = y.length - q := ⟨_, rfl⟩
        rw [← hlq] at HL HG
        have q1 : (0 : Int) < (lq : Int) := by omega
        have HLQ := Lib.hid hlq
        clear hlq
        by_cases h16 : l.length = 16
        · have q3 : ((l.length : Int) == 16) = true := by rw [h16]; rfl
          have q4 : (l.length == 16) = true := by rw [h16]; rfl
          have hp := HR.out
          rw [rdnSt_full (drop_ne hql) h16] at hp
          have HP2 := Lib.hid (rdnRead_e2 HP.out hp)
          clear hp HR HP h16
          go_wp2_with fail
          refine HL.out.mono ?_
          rintro e w4 ⟨rfl, F4⟩
          have HF4 := Lib.hid (HF.out.trans (F4.mono (fun _ _ h => h.elim)))
          have HC4 := Lib.hid (HCC2.out.old F4)
          clear F4 HL HCC
          go_wp2_with fail
          refine bodyPost_ret (v := .tuple #[.slice none 0 0, .int .i64 2]) (by simp [results, Tryz.results150, go_sem]) rfl ⟨?_, HF4.out⟩
          rw [HP2.out]
          exact ⟨rfl, by decide, _, Nat.le_add_right p m, HC4.out.step (K' := K) (Fr.refl w4) (S := fun _ => False) (fun _ _ h => h.elim) (fun k hk => .inl (.inl hk))⟩
        · have q3 : ((l.length : Int) == 16) = false := beq_eq_false_iff_ne.2 (by omega)
          have q4 : (l.length == 16) = false := beq_eq_false_iff_ne.2 (by omega)
          go_wp2_with fail
          refine HL.out.mono ?_
          rintro e w4 ⟨rfl, F4⟩
          have HF4 := Lib.hid (HF.out.trans (F4.mono (fun _ _ h => h.elim)))
          have HC4 := Lib.hid (HCC2.out.old F4)
          have HCG4 := Lib.hid (HCC.out.old F4)
          have HRW4 := Lib.hid (HRW.out.old F4)
          have HLS4 := Lib.hid (HLS.out.old F4)
          have hs4 := F4.size
          have HK4 := Lib.hid HRW4.out.keep
          have HAT := Lib.hid (attr_any HCG4.out)
          clear F4 HL HCC HCC2 HF HRW HLS
          go_wp2_with fail
          refine HAT.out.mono ?_
          rintro e w5 ⟨hout, F5⟩
          have HF5 := Lib.hid (HF4.out.trans' F5 (fun i hi e => by omega))
          have HC5 := Lib.hid (HC4.out.step (K' := fun k => K k ∨ w.heap.size ≤ k) F5 (fun k _ e => .inr (by omega)) (fun _ h => .inl h))
          have HRW5 := Lib.hid (HRW4.out.fr F5 (fun k _ e => by omega) (fun k hk e => by have := (HRW4.out.keep k hk).1; omega))
          have HLS5 := Lib.hid (HLS4.out.step (K' := fun k => k < w2.heap.size) F5 (fun k _ e => by omega) (fun _ h => .inl h))
          have hs5 := F5.size
          clear F5 HAT HF4 HC4 HCG4 HRW4 HLS4
          unfold attrOut at hout
          cases hp : partReadS (y.drop q) with
          | error x =>
            rw [hp] at hout
            obtain ⟨rfl, hx, -⟩ := hout
            have hx1 : (x == 0) = false := beq_eq_false_iff_ne.2 hx
            have hx2 : (x != 0) = true := by simpa using hx
            have hr := HR.out
            rw [rdnSt_err (drop_ne hql) h16 hp] at hr
            have HP2 := Lib.hid (rdnRead_e2 HP.out hr)
            have HX := Lib.hid hx
            clear hr HR HP h16 hp hx
            go_wp2_with fail
            refine bodyPost_ret (v := .tuple #[.slice none 0 0, .int .i64 x]) (by simp [results, Tryz.results150, go_sem]) rfl ⟨?_, HF5.out.alloc _⟩
            rw [HP2.out]
            exact ⟨rfl, HX.out, _, Nat.le_add_right p m, HC5.out.step (K' := K) ((Fr.refl w5).alloc _) (S := fun _ => False) (fun _ _ h => h.elim) (fun k hk => .inl (.inl hk))⟩
          | ok pm =>
            obtain ⟨pt1, m1⟩ := pm
            rw [hp] at hout
            obtain ⟨ao, co, av, cv, rfl, hkp, C5⟩ := hout
            obtain ⟨hb1, hb2, hb3, hb4⟩ := partRead_back hp
            rw [List.length_drop] at hb2 hb4
            have hr := HR.out
            rw [rdnSt_ok h16 hp] at hr
            obtain ⟨one, hone⟩ : ∃ one, one = (y.drop q).take m1 := ⟨_, rfl⟩
            have honel : one.length ≤ 1099511627776 := by rw [hone, List.length_take, List.length_drop]; omega
            rw [← hone] at hb1 hr
            rw [List.drop_drop] at hr
            have F6 : Fr (fun _ => False) w5 (w5.alloc (.cells #[.slice ao pt1.o.length co, .slice av pt1.b.length cv] 108)) := (Fr.refl w5).alloc _
            have B6 := Blk.new w5 108 #[.slice ao pt1.o.length co, .slice av pt1.b.length cv]
            obtain ⟨z, hz⟩ : ∃ z, z = w5.heap.size := ⟨_, rfl⟩
            have HKP := Lib.hid (hkp.old F6)
            have HCG6 := Lib.hid (C5.old F6)
            have HF6 := Lib.hid (HF5.out.alloc (.cells #[.slice ao pt1.o.length co, .slice av pt1.b.length cv] 108))
            have HC6 := Lib.hid (HC5.out.old F6)
            have HRW6 := Lib.hid (HRW5.out.old F6)
            have HLS6 := Lib.hid (HLS5.out.old F6)
            have hs6 := F6.size
            have HRR := Lib.hid hr
            have HB1 := Lib.hid hb1
            rw [← hz] at B6
            have HZ := Lib.hid hz
            have hm1 : y.length - (q + m1) < lq := by have := HLQ.out; omega
            have HM := Lib.hid hm1
            have hqm : q + m1 ≤ y.length := by omega
            have hl15 : l.length + 1 ≤ 16 := by omega
            have hzs : w2.heap.size ≤ z := by omega
            clear hr HR hp hkp C5 hb1 hone F6 hz HF5 HC5 HRW5 HLS5 hm1 h16
            go_upto_region 12 with fail
            rw [← HZ.out]
            generalize (w5.alloc (.cells #[.slice ao pt1.o.length co, .slice av pt1.b.length cv] 108)) = w6 at *
            have HWH := Lib.hid (whole_any _ _ pt1.o pt1.b w6 HKP.out.now.1 HKP.out.now.2 (by omega))
            have SZ := B6.cell
            go_wp2_with fail
            refine HWH.out.mono ?_
            rintro e w7 ⟨v, rfl, hwo, F7⟩
            replace hwo : w7.ownsRow w6.heap.size 5 1 v one.length (Lib.byteCells one) := by
              unfold wholeOut at hwo
              rw [HB1.out] at hwo
              exact hwo
            have HVB := Lib.hid (Vals.of_own hwo).1
            have HOV7 := Lib.hid hwo
            obtain ⟨a1, n1, c1, rfl, rfl⟩ := own_shape hwo
            have HF7 := Lib.hid (HF6.out.trans (F7.mono (fun _ _ h => h.elim)))
            have HC7 := Lib.hid (HC6.out.old F7)
            have HCG7 := Lib.hid (HCG6.out.old F7)
            have HRW7 := Lib.hid (HRW6.out.old F7)
            have HLS7 := Lib.hid (HLS6.out.old F7)
            have HKP7 := Lib.hid (HKP.out.old F7)
            have B7 := B6.fr F7 (fun h => h)
            replace SZ := B7.cell
            have hs7 := F7.size
            have hways : l.length = 0 ∨ (l.length ≠ 0 ∧ cmpS lst one = 0) ∨ (l.length ≠ 0 ∧ cmpS lst one = 1) ∨ (l.length ≠ 0 ∧ cmpS lst one = -1) := by
              have := cmpS_three lst one
              omega
            clear hwo F7 HF6 HC6 HCG6 HRW6 HLS6 HKP HWH HB1 B6
            have hrr := HRR.out
            rcases hways with h0 | ⟨h0, hc⟩ | ⟨h0, hc⟩ | ⟨h0, hc⟩
            case inr.inl =>
              rw [if_pos ⟨h0, hc⟩] at hrr
              have HP2 := Lib.hid (rdnRead_e2 HP.out hrr)
              clear hrr HRR
              have HCM := Lib.hid (compare_any _ _ lst one w7 HLS7.out.now HVB.out hlsl honel)
              rw [hc] at HCM
              have q5 : (0 : Int) < (l.length : Int) := by omega
              have q6 : 0 < l.length := by omega
              clear hc
              go_wp2_with fail
              refine HCM.out.mono ?_
              rintro e w8 ⟨rfl, F8⟩
              have HF8 := Lib.hid (HF7.out.trans (F8.mono (T := fun k => k = c) (fun _ _ h => h.elim)))
              have HC8 := Lib.hid (HC7.out.old F8)
              have HCG8 := Lib.hid (HCG7.out.old F8)
              have HRW8 := Lib.hid (HRW7.out.old F8)
              have HKP8 := Lib.hid (HKP7.out.old F8)
              have HOV8 := Lib.hid (ownsRow_fr HOV7.out F8 (fun _ _ h => h))
              replace SZ := (B7.fr F8 (fun h => h)).cell
              have hs8 := F8.size
              clear F8
              go_wp2_with fail
              refine bodyPost_ret (v := .tuple #[.slice none 0 0, .int .i64 10]) (by simp [results, Tryz.results150, go_sem]) rfl ⟨?_, HF8.out⟩
              rw [HP2.out]
              exact ⟨rfl, by decide, _, Nat.le_add_right p m, HC8.out.step (K' := K) (Fr.refl w8) (S := fun _ => False) (fun _ _ h => h.elim) (fun k hk => .inl (.inl hk))⟩
            case inr.inr.inl =>
              rw [if_neg (by rw [hc]; simp), if_pos ⟨h0, by rw [hc]; decide⟩] at hrr
              have HP2 := Lib.hid (rdnRead_e2 HP.out hrr)
              clear hrr HRR
              have HCM := Lib.hid (compare_any _ _ lst one w7 HLS7.out.now HVB.out hlsl honel)
              rw [hc] at HCM
              have q5 : (0 : Int) < (l.length : Int) := by omega
              have q6 : 0 < l.length := by omega
              clear hc
              go_wp2_with fail
              refine HCM.out.mono ?_
              rintro e w8 ⟨rfl, F8⟩
              have HF8 := Lib.hid (HF7.out.trans (F8.mono (T := fun k => k = c) (fun _ _ h => h.elim)))
              have HC8 := Lib.hid (HC7.out.old F8)
              have HCG8 := Lib.hid (HCG7.out.old F8)
              have HRW8 := Lib.hid (HRW7.out.old F8)
              have HKP8 := Lib.hid (HKP7.out.old F8)
              have HOV8 := Lib.hid (ownsRow_fr HOV7.out F8 (fun _ _ h => h))
              replace SZ := (B7.fr F8 (fun h => h)).cell
              have hs8 := F8.size
              clear F8
              go_wp2_with fail
              refine bodyPost_ret (v := .tuple #[.slice none 0 0, .int .i64 9]) (by simp [results, Tryz.results150, go_sem]) rfl ⟨?_, HF8.out⟩
              rw [HP2.out]
              exact ⟨rfl, by decide, _, Nat.le_add_right p m, HC8.out.step (K' := K) (Fr.refl w8) (S := fun _ => False) (fun _ _ h => h.elim) (fun k hk => .inl (.inl hk))⟩
            case' inl =>
              rw [if_neg (fun h => h.1 h0), if_neg (fun h => h.1 h0)] at hrr
              have HRN := Lib.hid hrr
              have q5 : ¬ (0 : Int) < (l.length : Int) := by omega
              have q6 : ¬ 0 < l.length := by omega
              clear hrr HRR
              obtain ⟨w8, hw8⟩ : ∃ w8 : World, w8 = w7 := ⟨_, rfl⟩
              have F8 : Fr (fun _ => False) w7 w8 := by rw [hw8]; exact Fr.refl _
              have HF8 := Lib.hid (HF7.out.trans (F8.mono (T := fun k => k = c) (fun _ _ h => h.elim)))
              have HC8 := Lib.hid (HC7.out.old F8)
              have HCG8 := Lib.hid (HCG7.out.old F8)
              have HRW8 := Lib.hid (HRW7.out.old F8)
              have HKP8 := Lib.hid (HKP7.out.old F8)
              have HOV8 := Lib.hid (ownsRow_fr HOV7.out F8 (fun _ _ h => h))
              replace SZ := (B7.fr F8 (fun h => h)).cell
              have hs8 := F8.size
              rw [← hw8]
              clear F8 hw8 h0
              go_upto_region 19 with fail
            case' inr.inr.inr =>
              rw [if_neg (by rw [hc]; simp), if_neg (by rw [hc]; simp)] at hrr
              have HRN := Lib.hid hrr
              clear hrr HRR
              have HCM := Lib.hid (compare_any _ _ lst one w7 HLS7.out.now HVB.out hlsl honel)
              rw [hc] at HCM
              have q5 : (0 : Int) < (l.length : Int) := by omega
              have q6 : 0 < l.length := by omega
              clear hc
              go_wp2_with fail
              refine HCM.out.mono ?_
              rintro e w8 ⟨rfl, F8⟩
              have HF8 := Lib.hid (HF7.out.trans (F8.mono (T := fun k => k = c) (fun _ _ h => h.elim)))
              have HC8 := Lib.hid (HC7.out.old F8)
              have HCG8 := Lib.hid (HCG7.out.old F8)
              have HRW8 := Lib.hid (HRW7.out.old F8)
              have HKP8 := Lib.hid (HKP7.out.old F8)
              have HOV8 := Lib.hid (ownsRow_fr HOV7.out F8 (fun _ _ h => h))
              replace SZ := (B7.fr F8 (fun h => h)).cell
              have hs8 := F8.size
              clear F8 HCM
              go_upto_region 19 with fail
            all_goals
              clear HF7 HC7 HCG7 HRW7 HLS7 HKP7 HOV7 B7 HVB
              have hk4 := HK4.out
              have hb9 : w2.heap.size ≤ w8.heap.size := by omega
              obtain ⟨a7, c7, w9, hrun, hrow9, F9, hown9⟩ := GRow.add (s := 90) Tryz.underlying90 info108 rfl (by decide) (by decide) HRW8.out hb9 ((Fr.refl w8).alloc (.cells #[.slice ao pt1.o.length co, .slice av pt1.b.length cv] 108)) w8.heap.size [.slice ao pt1.o.length co, .slice av pt1.b.length cv] rfl (Blk.new w8 _ _) (by intro u hu; simp at hu; rcases hu with rfl | rfl <;> rfl) pt1 (fun W f => ⟨_, _, rfl, HKP8.out W (f.mono (fun k _ hk => by
                rcases hk with hk | hk
                · exact (hk4 k hk).2
                · omega))⟩) (by omega)
              have HCG9 := Lib.hid (HCG8.out.step (K' := fun k => k < w1.heap.size ∨ w2.heap.size ≤ k) F9 (fun k _ e => .inr (hk4 k e).1) (fun _ h => .inl h))
              have HC9 := Lib.hid (HC8.out.step (K' := fun k => K k ∨ w.heap.size ≤ k) F9 (fun k _ e => .inr (by have := (hk4 k e).1; omega)) (fun _ h => .inl h))
              have HF9 := Lib.hid (HF8.out.trans' F9 (fun i hi e => by have := (hk4 i e).1; omega))
              have HLS9 := Lib.hid (own_kept' (ownsRow_fr HOV8.out F9 (fun k hk e => by have := (hk4 k e).2; have := ((Vals.of_own HOV8.out).2 k hk).1; omega)) (fun k => k < w2.heap.size) (fun k hk => by omega))
              have hs9 := F9.size
              have HRUN := Lib.hid hrun
              have HRW9 := Lib.hid hrow9
              clear hrun hrow9 F9 hown9 HRW8 HCG8 HC8 HF8 HKP8 HOV8 hk4
              go_wp2_with (at_builtin; refine wpList_append_run (by rfl) (.tmp 48) (.tmp 50) 90 (by rfl) _ w9 (by exact HRUN.out) ?_)
              go_roundg (y.length - (q + m1))
              case measure => rw [HG.out]; exact HM.out
              case rel => exact ⟨l ++ [pt1], one, q + m1, a7, c7, rfl, hqm, by rw [List.length_append]; exact hl15, by rw [List.length_append]; rfl, by rw [List.length_append]; exact HRW9.out, HLS9.out, honel, HCG9.out, HC9.out, HF9.out, by omega, HRN.out⟩
      · obtain rfl : q = y.length := by omega
        have hr := HR.out
        rw [List.drop_length, rdnSt_end] at hr
        rw [Nat.sub_self] at HL
        have HR2 := Lib.hid hr
        clear hr HR
        by_cases h0 : l.length = 0
        · have q5 : ((l.length : Int) == 0) = true := by rw [h0]; rfl
          have q6 : (l.length == 0) = true := by rw [h0]; rfl
          have hp := HR2.out
          rw [if_pos h0] at hp
          have HP2 := Lib.hid (rdnRead_e2 HP.out hp)
          clear hp HR2 HP h0
          go_wp2_with fail
          refine HL.out.mono ?_
          rintro e w4 ⟨rfl, F4⟩
          have HF4 := Lib.hid (HF.out.trans (F4.mono (fun _ _ h => h.elim)))
          have HC4 := Lib.hid (HCC2.out.old F4)
          clear F4 HL HCC
          go_wp2_with fail
          refine bodyPost_ret (v := .tuple #[.slice none 0 0, .int .i64 6]) (by simp [results, Tryz.results150, go_sem]) rfl ⟨?_, HF4.out⟩
          rw [HP2.out]
          exact ⟨rfl, by decide, _, Nat.le_add_right p m, HC4.out.step (K' := K) (Fr.refl w4) (S := fun _ => False) (fun _ _ h => h.elim) (fun k hk => .inl (.inl hk))⟩
        · have q5 : ((l.length : Int) == 0) = false := beq_eq_false_iff_ne.2 (by omega)
          have q6 : (l.length == 0) = false := beq_eq_false_iff_ne.2 h0
          have hp := HR2.out
          rw [if_neg h0] at hp
          have HP2 := Lib.hid (rdnRead_ok HP.out hp)
          clear hp HR2 HP h0
          go_wp2_with fail
          refine HL.out.mono ?_
          rintro e w4 ⟨rfl, F4⟩
          have HF4 := Lib.hid (HF.out.trans (F4.mono (fun _ _ h => h.elim)))
          have HC4 := Lib.hid (HCC2.out.old F4)
          have HK4 := Lib.hid ((HRW.out.old F4).kept (by decide) (fun k => k < w.heap.size) (fun k hk => by omega))
          clear F4 HL HCC
          go_wp2_with fail
          refine bodyPost_ret (v := .tuple #[.slice a l.length cc, .int .i64 0]) (by simp [results, Tryz.results150, go_sem]) rfl ⟨?_, HF4.out⟩
          rw [HP2.out]
          exact ⟨a, cc, rfl, HK4.out.imp (fun W h => h.attrs), HC4.out.step (K' := K) (Fr.refl w4) (S := fun _ => False) (fun _ _ h => h.elim) (fun k hk => .inl (.inl hk))⟩
end Go.Proofs.YthamenngccaijaaGreatDoor

namespace Go.Q
open Go Go.RowKit
theorem nameRead_e1 {l : List UInt8} {x : Int} (h : openS (tagOf 16) l = .error x) : nameReadS l = .error x := by unfold nameReadS; rw [h]
theorem nameRead_e2 {l y : List UInt8} {k : Nat} {x : Int} (h : openS (tagOf 16) l = .ok (y, k)) (h2 : nameSt [] y = .error x) : nameReadS l = .error x := by unfold nameReadS; rw [h]; simp only [h2]
theorem nameRead_ok {l y : List UInt8} {k : Nat} {r : List (List Part)} (h : openS (tagOf 16) l = .ok (y, k)) (h2 : nameSt [] y = .ok r) : nameReadS l = .ok (r, k) := by unfold nameReadS; rw [h]; simp only [h2]
end Go.Q
namespace Go.Proofs.YthamenngccaijaaGreatDoor
open Go Go.RowKit Go.Q
set_option linter.unusedSimpArgs false
def nameOut (w w' : World) (c : Nat) (K : Nat → Prop) (bs : List UInt8) (p : Nat) (r : Except Int (List (List Part) × Nat)) (e : Ending) : Prop :=
  match r with
  | .ok (l, m) => ∃ a cc, e = .returned (.tuple #[.slice a l.length cc, .int .i64 0]) ∧ Kept (fun W => NameAt W (.slice a l.length cc) l) (fun k => k < w.heap.size) w' ∧ CurAt w' c K bs (p + m)
  | .error x => e = .returned (.tuple #[.slice none 0 0, .int .i64 x]) ∧ x ≠ 0 ∧ ∃ q, p ≤ q ∧ CurAt w' c K bs q
set_option maxRecDepth 20000 in
set_option maxHeartbeats 4000000 in
theorem nameR_any {w : World} {c : Nat} {K : Nat → Prop} {bs : List UInt8} {p : Nat} (h : CurAt w c K bs p) (hbs : bs.length ≤ 10000000) :
    Calls Tryz.prog 109 #[.agg #[pt c]] w fun e w' => nameOut w w' c K bs p (nameReadS (bs.drop p)) e ∧ Fr (fun k => k = c) w w' := by
  have hcl := h.lt
  obtain ⟨b0, hb0⟩ : ∃ b0, b0 = w.heap.size := ⟨_, rfl⟩
  have F0 : Fr (fun _ => False) w (w.alloc (.cells #[pt c] 165)) := (Fr.refl w).alloc _
  have B0 := Blk.new w 165 #[pt c]
  have H := Lib.hid (h.step (K' := fun k => K k ∨ w.heap.size ≤ k) F0 (fun _ _ h => h.elim) (fun _ h => h))
  rw [← hb0] at B0
  have hbc : b0 ≠ c := by omega
  have HB0 := Lib.hid hb0
  clear h hb0
  go_enter Tryz.func109, Tryz.ntmps109
  go_upto_region 1 with fail
  rw [← HB0.out]
  generalize (w.alloc (.cells #[pt c] 165)) = w0 at *
  have hs0 := F0.size
  have HF0 := Lib.hid (F0.mono (T := fun k => k = c) (fun _ _ h => h.elim)).drew
  have HH := Lib.hid (H.out.old (Fr.refl w0).drew)
  have e0 : w0.drew.cell? ⟨b0, 0, none⟩ = some (pt c) := B0.cell 0
  have hd0 : w0.drew.heap.size = w0.heap.size := rfl
  clear F0 B0 H
  cases ho : openS (tagOf 16) (bs.drop p) with
  | error x =>
    have hx := openS_nz ho
    have hx1 : (x == 0) = false := beq_eq_false_iff_ne.2 hx
    have hx2 : (x != 0) = true := by simpa using hx
    have HP := Lib.hid (nameRead_e1 ho)
    have HX := Lib.hid hx
    have HE := Lib.hid (fun w1 (C : CurAt w1 c (fun k => K k ∨ w.heap.size ≤ k) bs p) => open_err C (tagOf 16) ho)
    clear ho hx
    go_region_held3 (fun w' => w'.cell? ⟨b0, 0, none⟩ = some (pt c)) (exact e0) (first
      | (go_at_call 56; refine (headOf_any 16 _).mono ?_; rintro e w1 ⟨rfl, F1⟩; replace e0 := F1.cell e0 (fun h => h); have HO := Lib.hid (HE.out w1 (HH.out.old F1)))
      | (go_at_call 81; refine HO.out.mono ?_; rintro e w2 ⟨rfl, C2, F2⟩; replace e0 := F2.cell e0 hbc))
    have HF2 := Lib.hid ((HF0.out.trans (F1.mono (fun _ _ h => h.elim))).trans F2)
    have HC2 := Lib.hid C2
    clear C2 F2 F1 HO HE HH
    go_wp2_with fail
    refine bodyPost_ret (v := .tuple #[.slice none 0 0, .int .i64 x]) (by simp [results, Tryz.results109, go_sem]) rfl ⟨?_, HF2.out⟩
    rw [HP.out]
    exact ⟨rfl, HX.out, p, Nat.le_refl _, HC2.out.step (K' := K) (Fr.refl w2) (S := fun _ => False) (fun _ _ h => h.elim) (fun k hk => .inl (.inl hk))⟩
  | ok ym =>
    obtain ⟨y, m⟩ := ym
    obtain ⟨-, -, hob3, hob4⟩ := open_back ho tag16
    rw [List.length_drop] at hob3
    have hyl : y.length ≤ 10000000 := by omega
    have HP := Lib.hid ho
    have HE := Lib.hid (fun w1 (C : CurAt w1 c (fun k => K k ∨ w.heap.size ≤ k) bs p) => open_on C (tagOf 16) ho)
    clear ho hob3 hob4 hbs
    go_region_held3 (fun w' => w'.cell? ⟨b0, 0, none⟩ = some (pt c)) (exact e0) (first
      | (go_at_call 56; refine (headOf_any 16 _).mono ?_; rintro e w1 ⟨rfl, F1⟩; replace e0 := F1.cell e0 (fun h => h); have HO := Lib.hid (HE.out w1 (HH.out.old F1)))
      | (go_at_call 81; refine HO.out.mono ?_; rintro e w2 ⟨⟨g, rfl, ⟨hg, hN⟩, C2⟩, F2⟩; replace e0 := F2.cell e0 hbc))
    have hs1 := F1.size
    have hs2 := F2.size
    rw [hd0] at hs1
    have F3 : Fr (fun _ => False) w2 (w2.alloc (.cells #[] 90)) := (Fr.refl w2).alloc _
    have HF2 := Lib.hid (((HF0.out.trans (F1.mono (fun _ _ h => h.elim))).trans F2).trans (F3.mono (fun _ _ h => h.elim)))
    have HC2 := Lib.hid (C2.old F3)
    have HN := Lib.hid ((hN.step (K' := fun k => k < w1.heap.size ∨ w2.heap.size ≤ k) (Fr.refl w2) (S := fun _ => False) (fun _ _ h => h.elim) (fun _ h => h)).old F3)
    have hgl := hN.lt
    have N0 : GRow 1 RStep (fun k => k < w2.heap.size) 90 (w2.alloc (.cells #[] 90)) w2.heap.size (.slice (some ⟨w2.heap.size, 0, none⟩) 0 0) [] := ⟨[], own_block (Blk.new w2 90 #[]) 0 (Nat.le_refl _) (Nat.zero_le _) w2.heap.size (Nat.le_refl _), fun i u h => by simp at h⟩
    have HN0 := Lib.hid N0
    have hs3 := F3.size
    clear C2 F2 F1 HO HE HH hN e0 hd0 F3 N0
    go_wp2_with fail
    go_loopg [6] y.length (fun gk u wr => ∃ (l : List (List Part)) (q : Nat) (a : Option Addr) (cc : Nat), gk = y.length - q ∧ q ≤ y.length ∧ l.length ≤ 64 ∧ u = .slice a l.length cc ∧ GRow 1 RStep (fun k => k < w2.heap.size) 90 wr w2.heap.size (.slice a l.length cc) l ∧ CurAt wr g (fun k => k < w1.heap.size ∨ w2.heap.size ≤ k) y q ∧ CurAt wr c (fun k => K k ∨ w.heap.size ≤ k) bs (p + m) ∧ Fr (fun k => k = c) w wr ∧ w2.heap.size ≤ wr.heap.size ∧ nameSt [] y = nameSt l (y.drop q))
    case atStart => exact ⟨[], 0, _, 0, rfl, Nat.zero_le _, by simp, rfl, HN0.out, HN.out, HC2.out, HF2.out, hs3, rfl⟩
    case round =>
      obtain ⟨l, q, a, cc, hgk, hq, hl64, rfl, hrow, hC, hCc, hF, hsz, hR⟩ := hrel
      have HG := Lib.hid hgk
      have HRW := Lib.hid hrow
      have HCC := Lib.hid hC
      have HCC2 := Lib.hid hCc
      have HF := Lib.hid hF
      have HR := Lib.hid hR
      have HL := Lib.hid (left_any hC)
      clear hgk hrow hC hCc hF hR HC2 HF2 HN HN0
      by_cases hql : q < y.length
      · obtain ⟨lq, hlq⟩ : ∃ lq, lq = y.length - q := ⟨_, rfl⟩
        rw [← hlq] at HL HG
        have q1 : (0 : Int) < (lq : Int) := by omega
        have HLQ := Lib.hid hlq
        clear hlq
        by_cases h64 : l.length = 64
        · have q3 : ((l.length : Int) == 64) = true := by rw [h64]; rfl
          have q4 : (l.length == 64) = true := by rw [h64]; rfl
          have hp := HR.out
          rw [nameSt_full (drop_ne hql) h64] at hp
          have HP2 := Lib.hid (nameRead_e2 HP.out hp)
          clear hp HR HP h64
          go_wp2_with fail
          refine HL.out.mono ?_
          rintro e w4 ⟨rfl, F4⟩
          have HF4 := Lib.hid (HF.out.trans (F4.mono (fun _ _ h => h.elim)))
          have HC4 := Lib.hid (HCC2.out.old F4)
          clear F4 HL HCC
          go_wp2_with fail
          refine bodyPost_ret (v := .tuple #[.slice none 0 0, .int .i64 2]) (by simp [results, Tryz.results109, go_sem]) rfl ⟨?_, HF4.out⟩
          rw [HP2.out]
          exact ⟨rfl, by decide, _, Nat.le_add_right p m, HC4.out.step (K' := K) (Fr.refl w4) (S := fun _ => False) (fun _ _ h => h.elim) (fun k hk => .inl (.inl hk))⟩
        · have q3 : ((l.length : Int) == 64) = false := beq_eq_false_iff_ne.2 (by omega)
          have q4 : (l.length == 64) = false := beq_eq_false_iff_ne.2 (by omega)
          go_wp2_with fail
          refine HL.out.mono ?_
          rintro e w4 ⟨rfl, F4⟩
          have HF4 := Lib.hid (HF.out.trans (F4.mono (fun _ _ h => h.elim)))
          have HC4 := Lib.hid (HCC2.out.old F4)
          have HCG4 := Lib.hid (HCC.out.old F4)
          have HRW4 := Lib.hid (HRW.out.old F4)
          have hs4 := F4.size
          have HK4 := Lib.hid HRW4.out.keep
          have HAT := Lib.hid (rdn_any HCG4.out hyl)
          clear F4 HL HCC HCC2 HF HRW
          go_wp2_with fail
          refine HAT.out.mono ?_
          rintro e w5 ⟨hout, F5⟩
          have HF5 := Lib.hid (HF4.out.trans' F5 (fun i hi e => by omega))
          have HC5 := Lib.hid (HC4.out.step (K' := fun k => K k ∨ w.heap.size ≤ k) F5 (fun k _ e => .inr (by omega)) (fun _ h => .inl h))
          have HRW5 := Lib.hid (HRW4.out.fr F5 (fun k _ e => by omega) (fun k hk e => by have := (HRW4.out.keep k hk).1; omega))
          have hs5 := F5.size
          clear F5 HAT HF4 HC4 HCG4 HRW4
          unfold rdnOut at hout
          cases hp : rdnReadS (y.drop q) with
          | error x =>
            rw [hp] at hout
            obtain ⟨rfl, hx, -⟩ := hout
            have hx1 : (x == 0) = false := beq_eq_false_iff_ne.2 hx
            have hx2 : (x != 0) = true := by simpa using hx
            have hr := HR.out
            rw [nameSt_err (drop_ne hql) h64 hp] at hr
            have HP2 := Lib.hid (nameRead_e2 HP.out hr)
            have HX := Lib.hid hx
            clear hr HR HP h64 hp hx
            go_wp2_with fail
            refine bodyPost_ret (v := .tuple #[.slice none 0 0, .int .i64 x]) (by simp [results, Tryz.results109, go_sem]) rfl ⟨?_, HF5.out⟩
            rw [HP2.out]
            exact ⟨rfl, HX.out, _, Nat.le_add_right p m, HC5.out.step (K' := K) (Fr.refl w5) (S := fun _ => False) (fun _ _ h => h.elim) (fun k hk => .inl (.inl hk))⟩
          | ok rm =>
            obtain ⟨r, m1⟩ := rm
            rw [hp] at hout
            obtain ⟨ar, cr, rfl, hkp, C5⟩ := hout
            obtain ⟨hb2, hb3⟩ := rdnRead_len hp
            rw [List.length_drop] at hb2
            have hr := HR.out
            rw [nameSt_ok h64 hp, List.drop_drop] at hr
            have HRN := Lib.hid hr
            have HM := Lib.hid (show y.length - (q + m1) < lq from by have := HLQ.out; omega)
            have hqm : q + m1 ≤ y.length := by omega
            have hl63 : l.length + 1 ≤ 64 := by omega
            have hk4 := HK4.out
            obtain ⟨a7, c7, w9, hrun, hrow9, F9, hown9⟩ := GRow.add (s := 25) Tryz.underlying25 info90 rfl (by decide) (by decide) HRW5.out (by omega) ((Fr.refl w5).alloc (.cells #[.slice ar r.length cr] 90)) w5.heap.size [.slice ar r.length cr] rfl (Blk.new w5 _ _) (by intro u hu; simp at hu; subst hu; rfl) r (fun W f => ⟨_, rfl, hkp W (f.mono (fun k _ hk => by
              rcases hk with hk | hk
              · exact (hk4 k hk).2
              · omega))⟩) (by omega)
            have HCG9 := Lib.hid (C5.step (K' := fun k => k < w1.heap.size ∨ w2.heap.size ≤ k) F9 (fun k _ e => .inr (hk4 k e).1) (fun _ h => .inl h))
            have HC9 := Lib.hid (HC5.out.step (K' := fun k => K k ∨ w.heap.size ≤ k) F9 (fun k _ e => .inr (by have := (hk4 k e).1; omega)) (fun _ h => .inl h))
            have HF9 := Lib.hid (HF5.out.trans' F9 (fun i hi e => by have := (hk4 i e).1; omega))
            have hs9 := F9.size
            have HRUN := Lib.hid hrun
            have HRW9 := Lib.hid hrow9
            clear hr HR hp hkp C5 h64 hrun hrow9 F9 hown9 HRW5 HC5 HF5 hk4 hb2 hb3
            go_wp2_with (at_builtin; refine wpList_append_run (by rfl) (.tmp 35) (.tmp 37) 25 (by rfl) _ w9 (by exact HRUN.out) ?_)
            go_roundg (y.length - (q + m1))
            case measure => rw [HG.out]; exact HM.out
            case rel => exact ⟨l ++ [r], q + m1, a7, c7, rfl, hqm, by rw [List.length_append]; exact hl63, by rw [List.length_append]; rfl, by rw [List.length_append]; exact HRW9.out, HCG9.out, HC9.out, HF9.out, by omega, HRN.out⟩
      · obtain rfl : q = y.length := by omega
        have hr := HR.out
        rw [List.drop_length] at hr
        rw [Nat.sub_self] at HL
        have HP2 := Lib.hid (nameRead_ok HP.out (hr.trans rfl))
        clear hr HR HP
        go_wp2_with fail
        refine HL.out.mono ?_
        rintro e w4 ⟨rfl, F4⟩
        have HF4 := Lib.hid (HF.out.trans (F4.mono (fun _ _ h => h.elim)))
        have HC4 := Lib.hid (HCC2.out.old F4)
        have HK4 := Lib.hid ((HRW.out.old F4).kept (by decide) (fun k => k < w.heap.size) (fun k hk => by omega))
        clear F4 HL HCC
        go_wp2_with fail
        refine bodyPost_ret (v := .tuple #[.slice a l.length cc, .int .i64 0]) (by simp [results, Tryz.results109, go_sem]) rfl ⟨?_, HF4.out⟩
        rw [HP2.out]
        exact ⟨a, cc, rfl, HK4.out.imp (fun W h => h.name), HC4.out.step (K' := K) (Fr.refl w4) (S := fun _ => False) (fun _ _ h => h.elim) (fun k hk => .inl (.inl hk))⟩
def nameReadOut (w w' : World) (c : Nat) (K : Nat → Prop) (bs : List UInt8) (p : Nat) (r : Except Int (List (List Part) × Nat)) (e : Ending) : Prop :=
  match r with
  | .ok (l, m) => ∃ a cc, e = .returned (.tuple #[.slice a l.length cc, .int .i64 0]) ∧ Kept (fun W => NameAt W (.slice a l.length cc) l) (fun k => k < w.heap.size) w' ∧ CurAt w' c K bs (p + m)
  | .error x => e = .returned (.tuple #[.slice none 0 0, .int .i64 x]) ∧ x ≠ 0 ∧ CurAt w' c K bs p
set_option maxRecDepth 20000 in
set_option maxHeartbeats 1000000 in
theorem nameRead_any {w : World} {c : Nat} {K : Nat → Prop} {bs : List UInt8} {p : Nat} (h : CurAt w c K bs p) (hbs : bs.length ≤ 10000000) :
    Calls Tryz.prog 62 #[pt c] w fun e w' => nameReadOut w w' c K bs p (nameReadS (bs.drop p)) e ∧ Fr (fun k => k = c) w w' := by
  have HA := Lib.hid (at_any h)
  have HN := Lib.hid (nameR_any h hbs)
  clear h
  go_enter Tryz.func62, Tryz.ntmps62
  go_wp2_with fail
  refine HA.out.mono ?_
  rintro e w0 ⟨rfl, rfl⟩
  go_wp2_with fail
  refine HN.out.mono ?_
  rintro e w1 ⟨hout, F1⟩
  have HF1 := Lib.hid F1
  clear HA HN F1
  unfold nameOut at hout
  cases hr : nameReadS (bs.drop p) with
  | error x =>
    rw [hr] at hout
    obtain ⟨rfl, hx, q, hq, C1⟩ := hout
    have hx1 : (x == 0) = false := beq_eq_false_iff_ne.2 hx
    have hx2 : (x != 0) = true := by simpa using hx
    have HB := Lib.hid (back_any C1 p hq)
    have HR := Lib.hid hr
    have HX := Lib.hid hx
    clear hr hx C1
    go_wp2_with fail
    refine HB.out.mono ?_
    rintro e w2 ⟨rfl, C2, F2⟩
    have HC2 := Lib.hid C2
    have HF2 := Lib.hid (HF1.out.trans F2)
    clear C2 F2 HB
    go_wp2_with fail
    refine bodyPost_ret (v := .tuple #[.slice none 0 0, .int .i64 x]) (by simp [results, Tryz.results62, go_sem]) rfl ⟨?_, HF2.out⟩
    rw [HR.out]
    exact ⟨rfl, HX.out, HC2.out⟩
  | ok lm =>
    obtain ⟨l, m⟩ := lm
    rw [hr] at hout
    obtain ⟨a, cc, rfl, hk, C1⟩ := hout
    have HK := Lib.hid hk
    have HC := Lib.hid C1
    have HR := Lib.hid hr
    clear hr hk C1
    go_wp2_with fail
    refine bodyPost_ret (v := .tuple #[.slice a l.length cc, .int .i64 0]) (by simp [results, Tryz.results62, go_sem]) rfl ⟨?_, HF1.out⟩
    rw [HR.out]
    exact ⟨a, cc, rfl, HK.out, HC.out⟩
def nameParseOut (w w' : World) (r : Except Int (List (List Part))) (e : Ending) : Prop :=
  match r with
  | .ok l => ∃ a cc, e = .returned (.tuple #[.slice a l.length cc, .int .i64 0]) ∧ Kept (fun W => NameAt W (.slice a l.length cc) l) (fun k => k < w.heap.size) w'
  | .error x => e = .returned (.tuple #[.slice none 0 0, .int .i64 x]) ∧ x ≠ 0
set_option maxRecDepth 20000 in
set_option maxHeartbeats 1000000 in
theorem nameParse_any (v : Value) (bs : List UInt8) (w : World) (h : Bytes w v bs) (hbs : bs.length ≤ 10000000) :
    Calls Tryz.prog 12 #[v] w fun e w' => nameParseOut w w' (nameParseS bs) e ∧ Fr (fun _ => False) w w' := by
  have hN := Lib.hid (new_any w v bs h (by omega))
  have HPS := Lib.hid (show nameParseS bs = match nameReadS bs with | .error e => .error e | .ok (n, k) => if k < bs.length then .error 7 else .ok n from rfl)
  clear h
  go_enter Tryz.func12, Tryz.ntmps12
  go_wp2_with fail
  refine hN.out.mono ?_
  rintro e w1 ⟨rfl, C1, F1⟩
  obtain ⟨c, hc⟩ : ∃ c, c = w.heap.size := ⟨_, rfl⟩
  have HF1 := Lib.hid F1
  have hs1 := F1.size
  have HX := Lib.hid (nameRead_any C1 hbs)
  rw [List.drop_zero] at HX
  rw [← hc] at HX ⊢
  have HC := Lib.hid hc
  clear C1 F1 hN hc
  go_wp2_with fail
  refine HX.out.mono ?_
  rintro e w2 ⟨hout, F2⟩
  have HF2 := Lib.hid (HF1.out.trans' F2 (fun i hi e => absurd hi (by rw [e, HC.out]; exact Nat.lt_irrefl _)))
  clear F2 HX HF1
  unfold nameReadOut at hout
  cases hr : nameReadS bs with
  | error x =>
    rw [hr] at hout
    obtain ⟨rfl, hx, -⟩ := hout
    have hx1 : (x == 0) = false := beq_eq_false_iff_ne.2 hx
    have hx2 : (x != 0) = true := by simpa using hx
    have hp := HPS.out
    rw [hr] at hp
    have HP := Lib.hid hp
    have HX := Lib.hid hx
    clear hr hx hp HPS
    go_wp2_with fail
    refine bodyPost_ret (v := .tuple #[.slice none 0 0, .int .i64 x]) (by simp [results, Tryz.results12, go_sem]) rfl ⟨?_, HF2.out⟩
    rw [HP.out]
    exact ⟨rfl, HX.out⟩
  | ok lm =>
    obtain ⟨l, m⟩ := lm
    rw [hr] at hout
    obtain ⟨a, cc, rfl, hk, C2⟩ := hout
    have hp := HPS.out
    rw [hr] at hp
    simp only at hp
    have HL := Lib.hid (left_any C2)
    rw [Nat.zero_add] at HL
    have HK := Lib.hid hk
    clear hr hk C2 HPS
    by_cases hm : m < bs.length
    · have q1 : (0 : Int) < ((bs.length - m : Nat) : Int) := by omega
      rw [if_pos hm] at hp
      have HP := Lib.hid hp
      clear hp hm
      generalize bs.length - m = lm at *
      go_wp2_with fail
      refine HL.out.mono ?_
      rintro e w3 ⟨rfl, F3⟩
      have HF3 := Lib.hid (HF2.out.trans F3)
      clear F3 HL
      go_wp2_with fail
      refine bodyPost_ret (v := .tuple #[.slice none 0 0, .int .i64 7]) (by simp [results, Tryz.results12, go_sem]) rfl ⟨?_, HF3.out⟩
      rw [HP.out]
      exact ⟨rfl, by decide⟩
    · have q1 : bs.length - m = 0 := by omega
      rw [if_neg hm] at hp
      have HP := Lib.hid hp
      rw [q1] at HL
      clear hp hm q1
      go_wp2_with fail
      refine HL.out.mono ?_
      rintro e w3 ⟨rfl, F3⟩
      have HF3 := Lib.hid (HF2.out.trans F3)
      have HK3 := Lib.hid (HK.out.old F3)
      clear F3 HL HK
      go_wp2_with fail
      refine bodyPost_ret (v := .tuple #[.slice a l.length cc, .int .i64 0]) (by simp [results, Tryz.results12, go_sem]) rfl ⟨?_, HF3.out⟩
      rw [HP.out]
      exact ⟨a, cc, rfl, fun W f => HK3.out W (f.mono (fun k _ hk => Nat.lt_of_lt_of_le hk hs1))⟩
end Go.Proofs.YthamenngccaijaaGreatDoor

namespace Go.Q
end Go.Q

namespace Go.Q
open Go Go.RowKit
instance : DecidableEq Part := fun p q => if h : p.o = q.o ∧ p.b = q.b then isTrue (by cases p; cases q; simp_all) else isFalse (fun e => h (by rw [e]; exact ⟨rfl, rfl⟩))
end Go.Q
namespace Go.Proofs.YthamenngccaijaaGreatDoor
open Go Go.RowKit Go.Q
set_option linter.unusedSimpArgs false
end Go.Proofs.YthamenngccaijaaGreatDoor

namespace Go.Q
open Go Go.RowKit
abbrev oneN (o : List Int) (v : List UInt8) : List (List Part) := [[⟨o, v⟩]]
end Go.Q

namespace Go.Q
open Go Go.RowKit
def knT1 : List UInt8 := [50, 46, 53, 46, 52, 46, 51, 61, 67, 65]
def knT2 : List UInt8 := [50, 46, 53, 46, 52, 46, 49, 48, 61, 32, 70, 111, 111, 32, 32, 66, 97, 114, 32]
def knT3 : List UInt8 := [50, 46, 53, 46, 52, 46, 51, 61, 99, 97]
def knT4 : List UInt8 := [50, 46, 53, 46, 52, 46, 49, 48, 61, 102, 111, 111, 32, 98, 97, 114]
def knV1 : List UInt8 := wrapS (tagOf 19) ([67, 65])
def knV2 : List UInt8 := wrapS (tagOf 19) ([32, 70, 111, 111, 32, 32, 66, 97, 114, 32])
def knV3 : List UInt8 := wrapS (tagOf 19) ([99, 97])
def knV4 : List UInt8 := wrapS (tagOf 19) ([102, 111, 111, 32, 98, 97, 114])
def knA : List (List Part) := [[⟨[2, 5, 4, 3], knV1⟩], [⟨[2, 5, 4, 10], knV2⟩]]
def knB : List (List Part) := [[⟨[2, 5, 4, 3], knV3⟩], [⟨[2, 5, 4, 10], knV4⟩]]
theorem NameAt.take {w : World} {a : Option Addr} {m cap : Nat} {n : List (List Part)} (h : NameAt w (.slice a m cap) n) (k : Nat) (hk : k ≤ n.length) (cap' : Nat) (hc : k ≤ cap') (hm : cap' ≤ maxLen) : NameAt w (.slice a k cap') (n.take k) := by
  obtain ⟨a0, cap0, he, h1, h2, h3⟩ := h
  simp only [Value.slice.injEq] at he
  obtain ⟨rfl, rfl, rfl⟩ := he
  have hl : (n.take k).length = k := by rw [List.length_take]; omega
  refine ⟨a, cap', by rw [hl], by omega, hm, fun h0 => ?_⟩
  obtain ⟨b, o, rfl, hy⟩ := h3 (by omega)
  refine ⟨b, o, rfl, fun i r hr => hy i r ?_⟩
  rw [List.getElem?_take] at hr
  split at hr
  · exact hr
  · cases hr
end Go.Q

namespace Go.Proofs.YthamenngccaijaaGreatDoor
open Go Go.RowKit Go.Q
end Go.Proofs.YthamenngccaijaaGreatDoor

namespace Go.Q
open Go Go.RowKit
theorem whole_part {n : List (List Part)} (h : nameOk n = true) {m : Nat} (hm : (nameWhole n).length ≤ m) : (wholesN n).flatten.length ≤ m ∧ ∀ r ∈ n, ∀ p ∈ r, p.b.length ≤ m := by
  obtain ⟨h1, h2⟩ := name_rdns h
  have h3 : (wholesN n).flatten.length ≤ m := by
    unfold nameWhole at hm
    rw [wrap_len] at hm
    omega
  refine ⟨h3, fun r hr p hp => ?_⟩
  obtain ⟨ws, hws⟩ := Option.isSome_iff_exists.1 (h2 r hr)
  have hmem : rdnWhole ws ∈ wholesN n := by
    unfold wholesN
    rw [List.mem_map]
    exact ⟨r, hr, by rw [hws]; rfl⟩
  have h4 := mem_flat hmem
  obtain ⟨-, -, hg⟩ := rdn_get hws
  obtain ⟨i, hi⟩ := List.mem_iff_getElem?.1 hp
  obtain ⟨x, hx, ha⟩ := hg i p hi
  have h5 := mem_flat (List.mem_of_getElem? hx)
  have h6 : ws.flatten.length ≤ (rdnWhole ws).length := by
    unfold rdnWhole
    rw [wrap_len]
    omega
  have h7 : p.b.length ≤ x.length := by
    unfold attrS at ha
    split at ha
    · simp only [Option.some.injEq] at ha
      subst ha
      rw [wrap_len, List.length_append]
      omega
    · cases ha
  omega
end Go.Q
namespace Go.Proofs.YthamenngccaijaaGreatDoor
open Go Go.RowKit Go.Q
set_option linter.unusedSimpArgs false
end Go.Proofs.YthamenngccaijaaGreatDoor

namespace Go.Q
open Go Go.RowKit
theorem nameParse_few {l : List UInt8} {n : List (List Part)} (h : nameParseS l = .ok n) (hl : l.length ≤ 10000000) : nameOk n = true ∧ ∀ r ∈ n, fewB r := by
  obtain ⟨h1, h2⟩ := nameParse_back h
  obtain ⟨-, h3⟩ := whole_part h1 (m := 10000000) (by rw [h2]; exact hl)
  exact ⟨h1, h3⟩
end Go.Q
namespace Go.Proofs.YthamenngccaijaaGreatDoor
open Go Go.RowKit Go.Q
set_option linter.unusedSimpArgs false
def genOut (w w' : World) (c : Nat) (K : Nat → Prop) (bs : List UInt8) (p : Nat) (r : Except Int (Gen × Nat)) (e : Ending) : Prop :=
  match r with
  | .ok (g, m) => ∃ ab cb an cn, e = .returned (.tuple #[.agg #[.int .i64 g.k, .slice ab g.b.length cb, .slice an g.n.length cn], .int .i64 0]) ∧ Kept (fun W => Bytes W (.slice ab g.b.length cb) g.b ∧ NameAt W (.slice an g.n.length cn) g.n) (fun k => k < w.heap.size) w' ∧ CurAt w' c K bs (p + m)
  | .error x => e = .returned (.tuple #[.agg #[.int .i64 0, .slice none 0 0, .slice none 0 0], .int .i64 x]) ∧ x ≠ 0 ∧ ∃ q, p ≤ q ∧ CurAt w' c K bs q
theorem bytes_nil (K : Nat → Prop) (w : World) : Kept (fun W => Bytes W (.slice none 0 0) []) K w := fun W _ => Vals.nil W
theorem name_nil (K : Nat → Prop) (w : World) : Kept (fun W => NameAt W (.slice none 0 0) []) K w := fun _ _ => ⟨none, 0, rfl, Nat.le_refl _, Nat.zero_le _, fun h => absurd h (Nat.lt_irrefl _)⟩
set_option maxRecDepth 20000 in
set_option maxHeartbeats 8000000 in
theorem genR_any {w : World} {c : Nat} {K : Nat → Prop} {bs : List UInt8} {p : Nat} (h : CurAt w c K bs p) (hbs : bs.length ≤ 10000000) :
    Calls Tryz.prog 74 #[pt c] w fun e w' => genOut w w' c K bs p (genReadS (bs.drop p)) e ∧ Fr (fun k => k = c) w w' := by
  have hcl := h.lt
  obtain ⟨z, hz⟩ : ∃ z, z = w.heap.size := ⟨_, rfl⟩
  have F0 : Fr (fun _ => False) w (w.alloc (.cells #[.int .i64 0, .slice none 0 0, .slice none 0 0] 43)) := (Fr.refl w).alloc _
  have B0 := Blk.new w 43 #[.int .i64 0, .slice none 0 0, .slice none 0 0]
  have H := Lib.hid (h.step (K' := fun k => K k ∨ w.heap.size ≤ k) F0 (fun _ _ h => h.elim) (fun _ h => h))
  rw [← hz] at B0
  have hzc : z ≠ c := by omega
  have HZ := Lib.hid hz
  clear h hz
  go_enter Tryz.func74, Tryz.ntmps74
  go_upto_region 1 with fail
  rw [← HZ.out]
  generalize (w.alloc (.cells #[.int .i64 0, .slice none 0 0, .slice none 0 0] 43)) = w0 at *
  have HB0 := Lib.hid B0
  have HF0 := Lib.hid (F0.mono (T := fun k => k = c) (fun _ _ h => h.elim))
  have hs0 := F0.size
  have HRD := Lib.hid (headRead_any H.out)
  clear F0 B0 H
  go_wp2_with fail
  refine HRD.out.mono ?_
  rintro e w1 ⟨⟨⟨tc, tn, tm⟩, n, x, rfl, ht⟩, C1, F1⟩
  rw [show tagV ⟨tc, tn, tm⟩ = .agg #[.int .i64 tc, .int .i64 tn, .bool tm] from rfl]
  obtain ⟨y, hy⟩ : ∃ y, y = w1.heap.size := ⟨_, rfl⟩
  have F2 : Fr (fun _ => False) w1 (w1.alloc (.cells #[.int .i64 tc, .int .i64 tn, .bool tm] 97)) := (Fr.refl w1).alloc _
  have BZ := (HB0.out.fr F1 hzc).fr F2 (fun h => h)
  have BY := Blk.new w1 97 #[.int .i64 tc, .int .i64 tn, .bool tm]
  rw [← hy] at BY
  have hs1 := F1.size
  have hzy : z ≠ y := by have := (HB0.out.fr F1 hzc).lt; omega
  have hyw : w.heap.size ≤ y := by omega
  have hyc : y ≠ c := by omega
  have HC2 := Lib.hid (C1.old F2)
  have HF2 := Lib.hid ((HF0.out.trans F1).trans (F2.mono (T := fun k => k = c) (fun _ _ h => h.elim)))
  have HT := Lib.hid ht
  have hs2 := F2.size
  clear C1 F1 F2 ht HRD HF0 HB0
  go_upto_region 2 with fail
  rw [← hy]
  have HY := Lib.hid hy
  clear hy
  generalize (w1.alloc (.cells #[.int .i64 tc, .int .i64 tn, .bool tm] 97)) = w2 at *
  have HBZ := Lib.hid BZ
  have HBY := Lib.hid BY
  clear BZ BY
  have endK : ∀ (W : World) (q : Nat), CurAt W c (fun k => K k ∨ w.heap.size ≤ k) bs q → CurAt W c K bs q := fun W q C => C.step (K' := K) (Fr.refl W) (S := fun _ => False) (fun _ _ h => h.elim) (fun k hk => .inl (.inl hk))
  have EK := Lib.hid endK
  clear endK
  have errs : ∀ (W : World) (x : Int) (q : Nat), Blk W z 43 #[.int .i64 0, .slice none 0 0, .slice none 0 0] → CurAt W c (fun k => K k ∨ w.heap.size ≤ k) bs q → p ≤ q → Fr (fun k => k = c) w W → x ≠ 0 → genReadS (bs.drop p) = .error x →
      ∃ W', W' = (((W.setCell ⟨z, 0, none⟩ (.int .i64 0)).setCell ⟨z, 1, none⟩ (.slice none 0 0)).setCell ⟨z, 2, none⟩ (.slice none 0 0)) ∧ Blk W' z 43 #[.int .i64 0, .slice none 0 0, .slice none 0 0] ∧ genOut w W' c K bs p (genReadS (bs.drop p)) (.returned (.tuple #[.agg #[.int .i64 0, .slice none 0 0, .slice none 0 0], .int .i64 x])) ∧ Fr (fun k => k = c) w W' := by
    intro W x q B C hq F hx hr
    obtain ⟨B5, F5⟩ := set3 B (.int .i64 0) (.slice none 0 0) (.slice none 0 0)
    refine ⟨_, rfl, B5, ?_, F.trans' F5 (fun i hi e => by have := HZ.out; omega)⟩
    rw [hr]
    exact ⟨rfl, hx, q, hq, EK.out _ _ (C.step (K' := fun k => K k ∨ w.heap.size ≤ k) F5 (fun k _ e => .inr (by have := HZ.out; omega)) (fun _ h => .inl h))⟩
  have ERR := Lib.hid errs
  clear errs
  cases hr : readS (bs.drop p) with
  | error e0 =>
    have ht := HT.out
    have hc := HC2.out
    rw [hr] at ht hc
    have hx : x = e0 := ht
    subst hx
    have hx0 := readS_err hr
    have hx1 : (x == 0) = false := beq_eq_false_iff_ne.2 hx0
    have hx2 : (x != 0) = true := by simpa using hx0
    obtain ⟨W', hW, B5, ho, F5⟩ := ERR.out w2 x p HBZ.out hc (Nat.le_refl _) HF2.out hx0 (genRead_err hr)
    have z0 := HBZ.out.cell 0
    have z1 := HBZ.out.cell 1
    have z2 := HBZ.out.cell 2
    have f0 := HBZ.out.frozen 0
    have f1 := HBZ.out.frozen 1
    have f2 := HBZ.out.frozen 2
    subst hW
    have n0 := B5.cell 0
    have n1 := B5.cell 1
    have n2 := B5.cell 2
    simp only [List.getElem?_toArray, List.getElem?_cons_succ, List.getElem?_cons_zero] at z0 z1 z2 n0 n1 n2
    have HO := Lib.hid (And.intro ho F5)
    clear hr hc hx0 B5 ho F5 HT HC2
    go_wp2_with fail
    exact bodyPost_ret (v := .tuple #[.agg #[.int .i64 0, .slice none 0 0, .slice none 0 0], .int .i64 x]) (by simp [results, Tryz.results74, go_sem, n0, n1, n2]) rfl HO.out
  | ok tnk =>
    obtain ⟨t, n', k⟩ := tnk
    have ht := HT.out
    have hc := HC2.out
    rw [hr] at ht hc
    obtain ⟨rfl, rfl, rfl⟩ : ⟨tc, tn, tm⟩ = t ∧ n = n' ∧ x = 0 := ht
    replace hc : CurAt w2 c (fun k => K k ∨ w.heap.size ≤ k) bs (p + k) := hc
    have hkl := readS_le hr
    rw [List.length_drop] at hkl
    have HC2 := Lib.hid hc
    have HR := Lib.hid hr
    have hn16 := hkl.2
    have hk1 := hkl.1
    clear hc HT hr hkl
    obtain ⟨mk, hmk⟩ : ∃ mk, mk = madeG tn := ⟨_, rfl⟩
    have HMK := Lib.hid hmk
    have HMD := Lib.hid (fun w => made_any tn w)
    rw [← hmk] at HMD
    clear hmk
    have e0 := HBY.out.cell 0
    have e1 := HBY.out.cell 1
    have e2 := HBY.out.cell 2
    simp only [List.getElem?_toArray, List.getElem?_cons_succ, List.getElem?_cons_zero] at e0 e1 e2
    by_cases hbad : tc ≠ 2 ∨ 8 < tn ∨ tm ≠ mk
    · have hbad2 : tc ≠ 2 ∨ 8 < tn ∨ tm ≠ madeG tn := by rw [← HMK.out]; exact hbad
      have herr := genRead_tag HR.out hbad2
      have HERR := Lib.hid herr
      have hthree : ((tc == 2) = false ∧ (tc != 2) = true) ∨ (tc = 2 ∧ (8 : Int) < tn) ∨ (tc = 2 ∧ ¬ (8 : Int) < tn ∧ tm ≠ mk) := by
        by_cases h2 : tc = 2
        · by_cases h8 : 8 < tn
          · exact .inr (.inl ⟨h2, h8⟩)
          · exact .inr (.inr ⟨h2, h8, by rcases hbad with h | h | h; exact absurd h2 h; exact absurd h h8; exact h⟩)
        · exact .inl ⟨beq_eq_false_iff_ne.2 h2, by simpa using h2⟩
      clear herr hbad hbad2
      rcases hthree with ⟨h1, h2⟩ | ⟨rfl, h2⟩ | ⟨rfl, h2, h3⟩
      case' inr.inr =>
        have h4 : (tm == mk) = false := by cases tm <;> cases mk <;> simp_all
        have h5 : (tm != mk) = true := by cases tm <;> cases mk <;> simp_all
      all_goals
        go_upto_region 4 with fail
        go_quiet ((go_at_call 121; exact Calls.quiet_of_same ((HMD.out _).mono (fun _ _ ⟨h1, h2⟩ => ⟨h1, h2.symm⟩))))
        have FQ : Fr (fun _ => False) w2 (w2.drewN nq) := (Fr.refl w2).drewN nq
        obtain ⟨W', hW, B5, ho, F5⟩ := ERR.out (w2.drewN nq) 4 (p + k) (HBZ.out.fr FQ (fun h => h)) (HC2.out.old FQ) (Nat.le_add_right _ _) (HF2.out.trans (FQ.mono (fun _ _ h => h.elim))) (by decide) HERR.out
        have BQ := HBZ.out.fr FQ (fun h => h)
        have z0 := BQ.cell 0
        have z1 := BQ.cell 1
        have z2 := BQ.cell 2
        have f0 := BQ.frozen 0
        have f1 := BQ.frozen 1
        have f2 := BQ.frozen 2
        subst hW
        have n0 := B5.cell 0
        have n1 := B5.cell 1
        have n2 := B5.cell 2
        simp only [List.getElem?_toArray, List.getElem?_cons_succ, List.getElem?_cons_zero] at z0 z1 z2 n0 n1 n2
        have HO := Lib.hid (And.intro ho F5)
        clear B5 ho F5 BQ FQ
        go_wp2_with fail
        exact bodyPost_ret (v := .tuple #[.agg #[.int .i64 0, .slice none 0 0, .slice none 0 0], .int .i64 4]) (by simp [results, Tryz.results74, go_sem, n0, n1, n2]) rfl HO.out
    · obtain ⟨rfl, h8, rfl⟩ : tc = 2 ∧ ¬ (8 : Int) < tn ∧ tm = mk := ⟨Classical.byContradiction fun h => hbad (.inl h), fun h => hbad (.inr (.inl h)), Classical.byContradiction fun h => hbad (.inr (.inr h))⟩
      have hgood : ¬ ((2 : Int) ≠ 2 ∨ 8 < tn ∨ tm ≠ madeG tn) := by
        rintro (h | h | h)
        · exact h rfl
        · exact h8 h
        · exact h HMK.out
      have HGD := Lib.hid hgood
      have h4 : (tm == tm) = true := by cases tm <;> rfl
      have h5 : (tm != tm) = false := by cases tm <;> rfl
      clear hbad hgood
      go_upto_region 4 with fail
      go_quiet ((go_at_call 121; exact Calls.quiet_of_same ((HMD.out _).mono (fun _ _ ⟨h1, h2⟩ => ⟨h1, h2.symm⟩))))
      have FQ : Fr (fun _ => False) w2 (w2.drewN nq) := (Fr.refl w2).drewN nq
      have HBZ2 := Lib.hid (HBZ.out.fr FQ (fun h => h))
      have HBY2 := Lib.hid (HBY.out.fr FQ (fun h => h))
      have HC3 := Lib.hid (HC2.out.old FQ)
      have HF3 := Lib.hid (HF2.out.trans (FQ.mono (T := fun k => k = c) (fun _ _ h => h.elim)))
      have hs3 := FQ.size
      clear FQ HBZ HBY HC2 HF2 e0 e1 e2
      generalize w2.drewN nq = w3 at *
      by_cases hn : n ≤ bs.length - (p + k)
      · have HTK := Lib.hid (take_ok HC3.out n hn)
        obtain ⟨l, hl⟩ : ∃ l, l = (bs.drop (p + k)).take n := ⟨_, rfl⟩
        have hll : l.length = n := by rw [hl, List.length_take, List.length_drop]; omega
        have hl2 : ((bs.drop p).drop k).take n = l := by rw [hl, List.drop_drop]
        rw [← hl] at HTK
        have hend : ¬ (bs.drop p).length - k < n := by rw [List.length_drop]; omega
        have HEND := Lib.hid hend
        have HL2 := Lib.hid hl2
        have HLL := Lib.hid hll
        clear hl hl2 hll hend
        go_wp2_with fail
        refine HTK.out.mono ?_
        rintro e w4 ⟨v, rfl, ho, C4, F4⟩
        have hvl := (Vals.of_own ho).2
        have hkb : Kept (fun W => Bytes W v l) (fun k => k < w3.heap.size) w4 := own_kept ho _ (fun k hk => hk)
        obtain ⟨av, m, cv, rfl, hmn⟩ := own_shape ho
        have hmn2 : n = m := by omega
        subst hmn2
        clear hmn
        have HKB := Lib.hid hkb
        have HVL := Lib.hid hvl
        have hb4 := (Vals.of_own ho).1
        have hs4 := F4.size
        have BZ4 := HBZ2.out.fr F4 hzc
        have BY4 := HBY2.out.fr F4 hyc
        obtain ⟨x8, hx8⟩ : ∃ x8, x8 = w4.heap.size := ⟨_, rfl⟩
        have F5 : Fr (fun _ => False) w4 (w4.alloc (.cells #[.int .i64 tn, .slice av n cv, .slice none 0 0] 43)) := (Fr.refl w4).alloc _
        have HBX := Lib.hid (Blk.new w4 43 #[.int .i64 tn, .slice av n cv, .slice none 0 0])
        rw [← hx8] at HBX
        have hxz : z ≠ x8 := by have := BZ4.lt; omega
        have hxc : x8 ≠ c := by have := C4.lt; omega
        have hxw : w.heap.size ≤ x8 := by omega
        have HBZ5 := Lib.hid (BZ4.fr F5 (fun h => h))
        have HC5 := Lib.hid (C4.old F5)
        have HF5 := Lib.hid ((HF3.out.trans F4).trans (F5.mono (T := fun k => k = c) (fun _ _ h => h.elim)))
        have HKB5 := Lib.hid (HKB.out.old F5)
        have HB5 := Lib.hid (hb4.old F5)
        have hz3 : z < w3.heap.size := HBZ2.out.lt
        have e1 := BY4.cell 1
        simp only [List.getElem?_toArray, List.getElem?_cons_succ, List.getElem?_cons_zero] at e1
        have hs5 := F5.size
        clear ho C4 F4 F5 BZ4 BY4 hkb hvl hb4 HTK HC3 HF3 HBZ2 HBY2 HKB
        go_upto_region 10 with fail
        rw [← hx8]
        have HX8 := Lib.hid hx8
        clear hx8 e1
        generalize (w4.alloc (.cells #[.int .i64 tn, .slice av n cv, .slice none 0 0] 43)) = w5 at *
        by_cases h4n : tn = 4
        · subst h4n
          have HGR := Lib.hid (genRead_dir HR.out HGD.out HEND.out rfl)
          rw [HL2.out] at HGR
          have x0 := HBX.out.cell 0
          have x1 := HBX.out.cell 1
          have g1 := HBX.out.frozen 1
          simp only [List.getElem?_toArray, List.getElem?_cons_succ, List.getElem?_cons_zero] at x0 x1
          have B6 : Blk (w5.setCell ⟨x8, 1, none⟩ (.slice none 0 0)) x8 43 #[.int .i64 4, .slice none 0 0, .slice none 0 0] := by
            have := HBX.out.set 1 (.slice none 0 0)
            simpa using this
          have F6 : Fr (fun k => k = x8) w5 (w5.setCell ⟨x8, 1, none⟩ (.slice none 0 0)) := Fr.setCell (S := fun k => k = x8) (p := ⟨x8, 1, none⟩) (Fr.refl w5) (fun _ => rfl) _
          have HB6 := Lib.hid B6
          have HBZ6 := Lib.hid (HBZ5.out.fr F6 hxz)
          have HC6 := Lib.hid (HC5.out.step (K' := fun k => K k ∨ w.heap.size ≤ k) F6 (fun k _ e => .inr (by omega)) (fun _ h => .inl h))
          have HF6 := Lib.hid (HF5.out.trans' F6 (fun i hi e => absurd hi (by omega)))
          have hs6 := F6.size
          have HXL := Lib.hid (show x8 < (w5.setCell ⟨x8, 1, none⟩ (.slice none 0 0)).heap.size from B6.lt)
          have hb6 := HB5.out.fr F6 (fun _ k hk e => by have := HVL.out k hk; have := HX8.out; omega)
          have HPA := Lib.hid (nameParse_any _ l _ hb6 (by have := HLL.out; omega))
          clear B6 F6 HC5 HF5 HBZ5 HBX hb6 HB5 HKB5
          go_wp2_with fail
          refine HPA.out.mono ?_
          rintro e w7 ⟨hout, F7⟩
          have hs7 := F7.size
          have HB7 := HB6.out.fr F7 (fun h => h)
          have HBZ7 := Lib.hid (HBZ6.out.fr F7 (fun h => h))
          have HC7 := Lib.hid (HC6.out.old F7)
          have HF7 := Lib.hid (HF6.out.trans (F7.mono (T := fun k => k = c) (fun _ _ h => h.elim)))
          clear F7 HPA HB6 HBZ6 HC6 HF6 x0 x1 g1
          unfold nameParseOut at hout
          cases hq : nameParseS l with
          | error x =>
            rw [hq] at hout HGR
            obtain ⟨rfl, hx⟩ := hout
            have hx1 : (x == 0) = false := beq_eq_false_iff_ne.2 hx
            have hx2 : (x != 0) = true := by simpa using hx
            have B8 : Blk (w7.setCell ⟨x8, 2, none⟩ (.slice none 0 0)) x8 43 #[.int .i64 4, .slice none 0 0, .slice none 0 0] := by
              have := HB7.set 2 (.slice none 0 0)
              simpa using this
            have F8 : Fr (fun k => k = x8) w7 (w7.setCell ⟨x8, 2, none⟩ (.slice none 0 0)) := Fr.setCell (S := fun k => k = x8) (p := ⟨x8, 2, none⟩) (Fr.refl w7) (fun _ => rfl) _
            have HBZ8 := Lib.hid (HBZ7.out.fr F8 hxz)
            have HC8 := Lib.hid (HC7.out.step (K' := fun k => K k ∨ w.heap.size ≤ k) F8 (fun k _ e => .inr (by omega)) (fun _ h => .inl h))
            have HF8 := Lib.hid (HF7.out.trans' F8 (fun i hi e => absurd hi (by omega)))
            have x2 := HB7.cell 2
            have g2 := HB7.frozen 2
            simp only [List.getElem?_toArray, List.getElem?_cons_succ, List.getElem?_cons_zero] at x2
            have HX := Lib.hid hx
            clear B8 F8 HB7 HBZ7 HC7 HF7 hq hx
            go_upto_region 13 with fail
            generalize (w7.setCell ⟨x8, 2, none⟩ (.slice none 0 0)) = w8 at *
            obtain ⟨W', hW, B5, ho, F5⟩ := ERR.out w8 x (p + k + n) HBZ8.out HC8.out (by omega) HF8.out HX.out HGR.out
            have z0 := HBZ8.out.cell 0
            have z1 := HBZ8.out.cell 1
            have z2 := HBZ8.out.cell 2
            have f0 := HBZ8.out.frozen 0
            have f1 := HBZ8.out.frozen 1
            have f2 := HBZ8.out.frozen 2
            subst hW
            have n0 := B5.cell 0
            have n1 := B5.cell 1
            have n2 := B5.cell 2
            simp only [List.getElem?_toArray, List.getElem?_cons_succ, List.getElem?_cons_zero] at z0 z1 z2 n0 n1 n2
            have HO := Lib.hid (And.intro ho F5)
            clear B5 ho F5 x2 g2
            go_wp2_with fail
            exact bodyPost_ret (v := .tuple #[.agg #[.int .i64 0, .slice none 0 0, .slice none 0 0], .int .i64 x]) (by simp [results, Tryz.results74, go_sem, n0, n1, n2]) rfl HO.out
          | ok nm =>
            rw [hq] at hout HGR
            obtain ⟨am, cm, rfl, hkn⟩ := hout
            obtain ⟨hok, hfew⟩ := nameParse_few hq (by have := HLL.out; omega)
            have B8 : Blk (w7.setCell ⟨x8, 2, none⟩ (.slice am nm.length cm)) x8 43 #[.int .i64 4, .slice none 0 0, .slice am nm.length cm] := by
              have := HB7.set 2 (.slice am nm.length cm)
              simpa using this
            have F8 : Fr (fun k => k = x8) w7 (w7.setCell ⟨x8, 2, none⟩ (.slice am nm.length cm)) := Fr.setCell (S := fun k => k = x8) (p := ⟨x8, 2, none⟩) (Fr.refl w7) (fun _ => rfl) _
            have HBZ8 := Lib.hid (HBZ7.out.fr F8 hxz)
            have HB8 := Lib.hid B8
            have HC8 := Lib.hid (HC7.out.step (K' := fun k => K k ∨ w.heap.size ≤ k) F8 (fun k _ e => .inr (by omega)) (fun _ h => .inl h))
            have HF8 := Lib.hid (HF7.out.trans' F8 (fun i hi e => absurd hi (by omega)))
            have hx6 := HX8.out
            have HK8 := Lib.hid (hkn.step (K' := fun k => k < w3.heap.size) F8 (fun k _ e => by rw [e]; exact HXL.out) (fun k hk => .inl (by omega)))
            have HGT := Lib.hid (genRight_any (.agg #[.int .i64 4, .slice none 0 0, .slice am nm.length cm]) ⟨4, [], nm⟩ _ ⟨_, _, rfl, Vals.nil _, HK8.out.now⟩ ⟨by simp, hfew⟩)
            have hgok : genOk ⟨4, [], nm⟩ = true := by simp [genOk, hok]
            rw [hgok] at HGT
            have x2 := HB7.cell 2
            have g2 := HB7.frozen 2
            simp only [List.getElem?_toArray, List.getElem?_cons_succ, List.getElem?_cons_zero] at x2
            clear B8 F8 HB7 HBZ7 HC7 HF7 hq hkn hok hfew hgok hx6
            go_upto_region 13 with fail
            generalize (w7.setCell ⟨x8, 2, none⟩ (.slice am nm.length cm)) = w8 at *
            have y0 := HB8.out.cell 0
            have y1 := HB8.out.cell 1
            have y2 := HB8.out.cell 2
            simp only [List.getElem?_toArray, List.getElem?_cons_succ, List.getElem?_cons_zero] at y0 y1 y2
            clear x2 g2
            go_wp2_with fail
            refine HGT.out.mono ?_
            rintro e w9 ⟨rfl, F9⟩
            have BX9 := HB8.out.fr F9 (fun h => h)
            have BZ9 := HBZ8.out.fr F9 (fun h => h)
            clear y0 y1 y2
            have y0 := BX9.cell 0
            have y1 := BX9.cell 1
            have y2 := BX9.cell 2
            have z0 := BZ9.cell 0
            have z1 := BZ9.cell 1
            have z2 := BZ9.cell 2
            have f0 := BZ9.frozen 0
            have f1 := BZ9.frozen 1
            have f2 := BZ9.frozen 2
            obtain ⟨B5, F5⟩ := set3 BZ9 (.int .i64 4) (.slice none 0 0) (.slice am nm.length cm)
            have n0 := B5.cell 0
            have n1 := B5.cell 1
            have n2 := B5.cell 2
            simp only [List.getElem?_toArray, List.getElem?_cons_succ, List.getElem?_cons_zero] at y0 y1 y2 z0 z1 z2 n0 n1 n2
            have HF5 := Lib.hid ((HF8.out.trans (F9.mono (T := fun k => k = c) (fun _ _ h => h.elim))).trans' F5 (fun i hi e => by have := HZ.out; omega))
            have HC5 := Lib.hid (EK.out _ _ ((HC8.out.old F9).step (K' := fun k => K k ∨ w.heap.size ≤ k) F5 (fun k _ e => .inr (by have := HZ.out; omega)) (fun _ h => .inl h)))
            have HK5 := Lib.hid ((HK8.out.old F9).step (K' := fun k => k < w.heap.size) F5 (fun k _ e => by omega) (fun k hk => .inl (by omega)))
            clear B5 F5 BZ9 BX9 F9 HGT HK8 HC8 HF8
            go_wp2_with fail
            refine bodyPost_ret (v := .tuple #[.agg #[.int .i64 4, .slice none 0 0, .slice am nm.length cm], .int .i64 0]) (by simp [results, Tryz.results74, go_sem, n0, n1, n2]) rfl ⟨?_, HF5.out⟩
            rw [HGR.out]
            exact ⟨none, 0, am, cm, rfl, fun W f => ⟨Vals.nil W, HK5.out W f⟩, by rw [show p + (k + n) = p + k + n by omega]; exact HC5.out⟩
        · have k4 : (tn == 4) = false := beq_eq_false_iff_ne.2 h4n
          have HGR := genRead_on HR.out HGD.out HEND.out h4n
          rw [HL2.out] at HGR
          have hgo : genOk ⟨tn, l, []⟩ = contB tn l := by unfold genOk; rw [if_neg h4n]; simp
          have HGT := Lib.hid (genRight_any (.agg #[.int .i64 tn, .slice av n cv, .slice none 0 0]) ⟨tn, l, []⟩ _ ⟨_, _, rfl, HB5.out, (name_nil (fun _ => True) _).now⟩ ⟨by have := HLL.out; show l.length ≤ _; omega, by simp⟩)
          rw [hgo] at HGT
          have HGRR := Lib.hid HGR
          have x0 := HBX.out.cell 0
          have x1 := HBX.out.cell 1
          have x2 := HBX.out.cell 2
          simp only [List.getElem?_toArray, List.getElem?_cons_succ, List.getElem?_cons_zero] at x0 x1 x2
          clear HGR hgo h4n
          obtain ⟨cb, hcb⟩ : ∃ cb, cb = contB tn l := ⟨_, rfl⟩
          rw [← hcb] at HGT HGRR
          clear hcb
          go_wp2_with fail
          refine HGT.out.mono ?_
          rintro e w9 ⟨rfl, F9⟩
          have BX9 := HBX.out.fr F9 (fun h => h)
          have BZ9 := HBZ5.out.fr F9 (fun h => h)
          have HC9 := Lib.hid (HC5.out.old F9)
          have HF9 := Lib.hid (HF5.out.trans (F9.mono (T := fun k => k = c) (fun _ _ h => h.elim)))
          have HK9 := Lib.hid (HKB5.out.old F9)
          clear x0 x1 x2 F9 HC5 HF5 HKB5 HB5 HGT
          have z0 := BZ9.cell 0
          have z1 := BZ9.cell 1
          have z2 := BZ9.cell 2
          have f0 := BZ9.frozen 0
          have f1 := BZ9.frozen 1
          have f2 := BZ9.frozen 2
          simp only [List.getElem?_toArray, List.getElem?_cons_succ, List.getElem?_cons_zero] at z0 z1 z2
          cases cb with
          | false =>
            obtain ⟨W', hW, B5, ho, F5⟩ := ERR.out w9 6 (p + k + n) BZ9 HC9.out (by omega) HF9.out (by decide) (HGRR.out.trans (if_neg Bool.false_ne_true))
            subst hW
            have n0 := B5.cell 0
            have n1 := B5.cell 1
            have n2 := B5.cell 2
            simp only [List.getElem?_toArray, List.getElem?_cons_succ, List.getElem?_cons_zero] at n0 n1 n2
            have HO := Lib.hid (And.intro ho F5)
            clear B5 ho F5 BX9 BZ9
            go_wp2_with fail
            exact bodyPost_ret (v := .tuple #[.agg #[.int .i64 0, .slice none 0 0, .slice none 0 0], .int .i64 6]) (by simp [results, Tryz.results74, go_sem, n0, n1, n2]) rfl HO.out
          | true =>
            have HGE := Lib.hid (HGRR.out.trans (if_pos rfl))
            have y0 := BX9.cell 0
            have y1 := BX9.cell 1
            have y2 := BX9.cell 2
            obtain ⟨B5, F5⟩ := set3 BZ9 (.int .i64 tn) (.slice av n cv) (.slice none 0 0)
            have n0 := B5.cell 0
            have n1 := B5.cell 1
            have n2 := B5.cell 2
            simp only [List.getElem?_toArray, List.getElem?_cons_succ, List.getElem?_cons_zero] at y0 y1 y2 n0 n1 n2
            have HF5 := Lib.hid (HF9.out.trans' F5 (fun i hi e => by have := HZ.out; omega))
            have HC5 := Lib.hid (EK.out _ _ (HC9.out.step (K' := fun k => K k ∨ w.heap.size ≤ k) F5 (fun k _ e => .inr (by have := HZ.out; omega)) (fun _ h => .inl h)))
            have HK5 := Lib.hid (HK9.out.step (K' := fun k => k < w.heap.size) F5 (fun k _ e => by omega) (fun k hk => .inl (by omega)))
            clear B5 F5 BZ9 BX9 HK9 HC9 HF9 HGRR
            go_wp2_with fail
            refine bodyPost_ret (v := .tuple #[.agg #[.int .i64 tn, .slice av n cv, .slice none 0 0], .int .i64 0]) (by simp [results, Tryz.results74, go_sem, n0, n1, n2]) rfl ⟨?_, HF5.out⟩
            rw [HGE.out]
            refine ⟨av, cv, none, 0, by rw [HLL.out]; rfl, fun W f => ⟨by rw [HLL.out]; exact HK5.out W f, (name_nil (fun _ => True) W).now⟩, by rw [show p + (k + n) = p + k + n by omega]; exact HC5.out⟩
      · have hend : (bs.drop p).length - k < n := by rw [List.length_drop]; omega
        have HGR := Lib.hid (genRead_end HR.out HGD.out hend)
        have HTK := Lib.hid (take_end HC3.out n (by omega))
        clear hend hn
        go_wp2_with fail
        refine HTK.out.mono ?_
        rintro e w4 ⟨rfl, F4⟩
        obtain ⟨W', hW, B5, ho, F5⟩ := ERR.out w4 3 (p + k) (HBZ2.out.fr F4 (fun h => h)) (HC3.out.old F4) (by omega) (HF3.out.trans (F4.mono (fun _ _ h => h.elim))) (by decide) HGR.out
        have BQ := HBZ2.out.fr F4 (fun h => h)
        have z0 := BQ.cell 0
        have z1 := BQ.cell 1
        have z2 := BQ.cell 2
        have f0 := BQ.frozen 0
        have f1 := BQ.frozen 1
        have f2 := BQ.frozen 2
        subst hW
        have n0 := B5.cell 0
        have n1 := B5.cell 1
        have n2 := B5.cell 2
        simp only [List.getElem?_toArray, List.getElem?_cons_succ, List.getElem?_cons_zero] at z0 z1 z2 n0 n1 n2
        have HO := Lib.hid (And.intro ho F5)
        clear B5 ho F5 BQ F4 HTK
        go_wp2_with fail
        exact bodyPost_ret (v := .tuple #[.agg #[.int .i64 0, .slice none 0 0, .slice none 0 0], .int .i64 3]) (by simp [results, Tryz.results74, go_sem, n0, n1, n2]) rfl HO.out
end Go.Proofs.YthamenngccaijaaGreatDoor
