/-
  The reference's cache in memory: a struct that keeps its rows in a slice; the walks of place and less.
-/
import Derived.Test.YtjcjebmlibllbaaCaMore
import Derived.Test.YtjcjebmlibllbaaCaUsesW
import Derived.Deep.RegionHeld3
import Derived.Deep.RegionLaw
import Derived.BigRegion
namespace Go.Q
open Go
/-- A row's cells. -/
def row (s : Slot) : List Value := [.string s.key, .int .i64 s.k, .int .i64 s.date, .int .i64 s.reason, .int .i64 s.cause, .int .i64 s.fr, .int .i64 s.to]
def rows (L : List Slot) : List Value := L.flatMap row
theorem rows_len (L : List Slot) : (rows L).length = L.length * 7 := by
  induction L with
  | nil => rfl
  | cons x t ih => simp only [rows, List.flatMap_cons, List.length_append] at ih ⊢; rw [ih]; simp [row]; omega
theorem rows_get {s : Slot} {j : Nat} (hj : j < 7) : ∀ {L : List Slot} {i : Nat}, L[i]? = some s → (rows L)[i * 7 + j]? = (row s)[j]?
  | [], _, h => by simp at h
  | x :: t, 0, h => by
    simp at h
    subst h
    simp only [rows, List.flatMap_cons, Nat.zero_mul, Nat.zero_add]
    rw [List.getElem?_append_left (by simpa [row] using hj)]
  | x :: t, i + 1, h => by
    simp only [List.getElem?_cons_succ] at h
    have ih := rows_get hj (L := t) (i := i) h
    simp only [rows, List.flatMap_cons] at ih ⊢
    rw [List.getElem?_append_right (by simp [row]; omega)]
    rw [show (i + 1) * 7 + j - (row x).length = i * 7 + j from by simp [row]; omega]
    exact ih
theorem rows_append (L M : List Slot) : rows (L ++ M) = rows L ++ rows M := by simp [rows]
theorem rows_take (L : List Slot) (i : Nat) (hi : i ≤ L.length) : (rows L).take (i * 7) = rows (L.take i) := by
  have h : rows L = rows (L.take i) ++ rows (L.drop i) := by rw [← rows_append, List.take_append_drop]
  rw [h, List.take_append_of_le_length (by rw [rows_len, List.length_take]; omega)]
  exact List.take_of_length_le (by rw [rows_len, List.length_take]; omega)
theorem rows_drop (L : List Slot) (i : Nat) (hi : i ≤ L.length) : (rows L).drop (i * 7) = rows (L.drop i) := by
  have h : rows L = rows (L.take i) ++ rows (L.drop i) := by rw [← rows_append, List.take_append_drop]
  have hl : (rows (L.take i)).length = i * 7 := by rw [rows_len, List.length_take, Nat.min_eq_left hi]
  rw [h, ← hl, List.drop_left]
theorem row_one {L : List Slot} : ∀ u ∈ rows L, u.oneCell' = true := by
  intro u hu
  simp only [rows, List.mem_flatMap] at hu
  obtain ⟨s, _, hs⟩ := hu
  simp only [row, List.mem_cons, List.not_mem_nil, or_false] at hs
  rcases hs with h | h | h | h | h | h | h <;> (subst h; rfl)

/-- The block of an owned row of rows, cell by cell. -/
theorem own_cells {w : World} {e : TypeId} {v : Value} {L : List Slot} (h : w.ownsRow 0 e 7 v L.length (rows L)) (h0 : 0 < L.length) :
    ∃ g cap, v = .slice (some ⟨g, 0, none⟩) L.length cap ∧ L.length ≤ cap ∧ cap ≤ maxLen ∧ ∀ j u, (rows L)[j]? = some u → w.cell? ⟨g, j, none⟩ = some u := by
  rcases h.2 with ⟨_, h⟩ | ⟨g, cap, cur, rfl, _, hh, hc, hm, hcs, htk⟩
  · omega
  · refine ⟨g, cap, rfl, hc, hm, fun j u hu => ?_⟩
    rw [← htk, List.getElem?_take] at hu
    split at hu
    · simp only [World.cell?, hh]
      simpa using hu
    · cases hu
theorem own_form7 {w : World} {base : Nat} {e : TypeId} {v : Value} {n : Nat} {xs : List Value} (h : w.ownsRow base e 7 v n xs) : ∃ a cap, v = .slice a n cap ∧ n ≤ cap ∧ cap ≤ maxLen ∧ ∀ b, a = some b → b.spot = none ∧ b.off = 0 := by
  rcases h.2 with ⟨rfl, rfl⟩ | ⟨g, cap, cur, rfl, _, hh, hc, hm, hcs, htk⟩
  · exact ⟨none, 0, rfl, Nat.le_refl _, Nat.zero_le _, by simp⟩
  · exact ⟨_, cap, rfl, hc, hm, by rintro b h; cases h; exact ⟨rfl, rfl⟩⟩
theorem own_base {w : World} {base : Nat} {e : TypeId} {size n : Nat} {v : Value} {xs : List Value} (h : w.ownsRow base e size v n xs) : ∀ k, v.ownBlock = some k → base ≤ k ∧ k < w.heap.size := by
  intro k hk
  rcases h.2 with ⟨rfl, _⟩ | ⟨g, cap, cur, rfl, hb, hh, _⟩
  · simp [Value.ownBlock] at hk
  · simp only [Value.ownBlock, Option.some.injEq] at hk
    subst hk
    exact ⟨hb, (Array.getElem?_eq_some_iff.1 hh).1⟩
theorem own_zero {w : World} {base : Nat} {e : TypeId} {size n : Nat} {v : Value} {xs : List Value} (h : w.ownsRow base e size v n xs) : w.ownsRow 0 e size v n xs := by
  refine ⟨h.1, ?_⟩
  rcases h.2 with h | ⟨g, cap, cur, r, _, h⟩
  · exact .inl h
  · exact .inr ⟨g, cap, cur, r, Nat.zero_le _, h⟩
theorem add_none (g o j : Nat) : (⟨g, o, none⟩ : Addr).add j = ⟨g, o + j, none⟩ := by unfold Addr.add; split <;> simp_all
end Go.Q
namespace Go.Proofs.Ytjcjebmlibllbaa
open Go Go.RowKit Go.Q

/-- The reference's cache at q, with none of K. -/
def RefAt (w : World) (q : Nat) (K : Nat → Prop) (room : Int) (L : List Slot) : Prop :=
  ∃ sl, Blk w q 53 #[.int .i64 room, sl] ∧ w.ownsRow 0 56 7 sl L.length (rows L) ∧ ¬ K q ∧ ∀ k, sl.ownBlock = some k → k ≠ q ∧ ¬ K k

theorem RefAt.step {w w' : World} {q : Nat} {K K' S : Nat → Prop} {room : Int} {L : List Slot} (h : RefAt w q K room L) (f : Fr S w w') (hS : ∀ k, k < w.heap.size → S k → K k) (hK : ∀ k, K' k → K k ∨ w.heap.size ≤ k) : RefAt w' q K' room L := by
  obtain ⟨sl, B, hown, hq, hsl⟩ := h
  have hlt := B.lt
  have hsb : ∀ k, sl.ownBlock = some k → k < w.heap.size := fun k hk => by
    rcases hown.2 with ⟨rfl, _⟩ | ⟨g, cap, cur, rfl, _, hh, _⟩
    · simp [Value.ownBlock] at hk
    · simp only [Value.ownBlock, Option.some.injEq] at hk
      subst hk
      exact (Array.getElem?_eq_some_iff.1 hh).1
  refine ⟨sl, B.fr f (fun h => hq (hS q hlt h)), ownsRow_fr hown f (fun k hk h => (hsl k hk).2 (hS k (hsb k hk) h)), fun h => ?_, fun k hk => ⟨(hsl k hk).1, fun h => ?_⟩⟩
  · rcases hK q h with h | h
    · exact hq h
    · omega
  · rcases hK k h with h | h
    · exact (hsl k hk).2 h
    · have := hsb k hk
      omega

set_option maxHeartbeats 2000000 in
theorem place_any {w : World} {q : Nat} {K : Nat → Prop} {room : Int} {L : List Slot} (h : RefAt w q K room L) (hL : L.length ≤ 10000) (key : ByteArray) :
    Calls Try.prog 39 #[pt q, .string key] w fun e w' => w = w' ∧
      ((∃ (i : Nat) (s : Slot), e = .returned (.int .i64 i) ∧ L[i]? = some s ∧ s.key = key) ∨ (e = .returned (.int .i64 (-1)) ∧ ∀ s ∈ L, s.key ≠ key)) := by
  obtain ⟨sl, B, hown, -, -⟩ := h
  have e1 := B.cell 1
  simp at e1
  obtain ⟨a, cap, rfl, hcap, hcm, -⟩ := own_form7 hown
  have HO := Lib.hid hown
  clear hown
  go_enter Try.func39, Try.ntmps39
  go_wp2_with fail
  go_loopg [5] L.length (fun g i wr => ∃ k : Nat, g = L.length - k ∧ k ≤ L.length ∧ i = .int .i64 k ∧ wr = w ∧ ∀ s ∈ L.take k, s.key ≠ key)
  case atStart => exact ⟨0, rfl, Nat.zero_le _, rfl, rfl, by simp⟩
  case round =>
    obtain ⟨k, hg, hk, rfl, rfl, hno⟩ := hrel
    have HG := Lib.hid hg
    have HN := Lib.hid hno
    clear hg hno
    by_cases hlt : k < L.length
    · obtain ⟨g, cap', he, _, _, hx⟩ := own_cells HO.out (by omega)
      simp only [Value.slice.injEq] at he
      obtain ⟨rfl, _, rfl⟩ := he
      obtain ⟨s, hs⟩ : ∃ s, L[k]? = some s := ⟨_, List.getElem?_eq_getElem hlt⟩
      have c0 := hx (k * 7 + 0) (.string s.key) (by rw [rows_get (by decide) hs]; rfl)
      simp only [Nat.add_zero] at c0
      have HS := Lib.hid hs
      have q1 : (0 : Int) ≤ (k : Int) := by omega
      have q2 : (k : Int) < (L.length : Int) := by omega
      clear hx hs
      by_cases hkey : s.key = key
      · have e2 := toList_same hkey
        have HK := Lib.hid hkey
        clear hkey
        go_wp2_with fail
        go_ret
        exact ⟨rfl, .inl ⟨k, s, rfl, HS.out, HK.out⟩⟩
      · have e2 := toList_other hkey
        have HK := Lib.hid hkey
        clear hkey
        go_wp2_with fail
        go_roundg (L.length - (k + 1))
        case measure => rw [HG.out]; omega
        case rel =>
          refine ⟨k + 1, rfl, by omega, by go_num, rfl, fun x hx => ?_⟩
          rw [List.take_add_one, HS.out] at hx
          simp only [Option.toList_some, List.mem_append, List.mem_singleton] at hx
          rcases hx with h | h
          · exact HN.out x h
          · exact h ▸ HK.out
    · go_wp2_with fail
      go_ret
      obtain rfl : k = L.length := by omega
      refine ⟨rfl, .inr ⟨rfl, fun s hs => HN.out s (by rw [List.take_length]; exact hs)⟩⟩

section
variable {P : Program}
/-- An append to a row that is owned, at a step of a region that draws its order; where the new row lies. -/
theorem step_append_at {ops : Array Oper} {o : Oper} {a : Go.Act} {w : World} {K : Go.Act → World → Prop} {Q : Exit → Go.Act → World → Prop} {E : Prop} (hgd : o.guard = none) (s x : Operand) (t : TypeId)
    (ho : o.op = .call { callee := .builtin .append, args := #[s, x], argTypes := #[t, t] })
    (base : Nat) (e : TypeId) (i : TypeInfo) (z : Value) (size bytes : Nat) (ht : P.underlying t = some (.slice e)) (hi : P.info? e = some i) (hz : i.zero = some z)
    (hsize : i.size = size) (hby : i.bytes = bytes) (hzs : z.cells.size = size) (hsz : 0 < size)
    (v : Value) (n : Nat) (xs : List Value) (hs : a.eval s = v) (hown : w.ownsRow base e size v n xs)
    (ad : Addr) (m c : Nat) (news : List Value) (hx : a.eval x = .slice (some ad) m c) (hl : news.length = m * size) (hnews : ∀ j u, news[j]? = some u → w.cell? (ad.add j) = some u) (h1 : ∀ u ∈ news, u.oneCell' = true)
    (h63 : n + m ≤ maxLen) (hbytes : (n + m) * bytes ≤ 140737488355328) (hbase : base ≤ w.heap.size)
    (h : ∀ v' w', w'.ownsRow base e size v' (n + m) (xs ++ news) → w.grownBy w' v.ownBlock → (v'.ownBlock = v.ownBlock ∨ v'.ownBlock = some w.heap.size) → K (a.put o.dst v') w') :
    if Region.wanted o (yielded ops a.tmps) = true then Oper.wp P o a w K Q else E := by
  have hw : Region.wanted o (yielded ops a.tmps) = true := by simp [Region.wanted, hgd]
  rw [if_pos hw]
  obtain ⟨v', w', hr, h2, h3, _, h5⟩ := run_append_own_at (P := P) w base t o.type e i z size bytes ht hi hz hsize hby hzs hsz v n xs hown ad m c news hl hnews h1 h63 hbytes hbase
  unfold Oper.wp execOp
  simp only [ho, resolve, invoke, builtin, Sem.run_bind, Sem.run_pure, Result.andThen_ok, List.map_toArray, List.map_cons, List.map_nil, hs, hx, hr]
  exact h v' w' h2 h3 h5
end

theorem info56 : (Try.prog.info? 56).map (fun i => (i.zero, i.size, i.bytes)) = some (some (.agg #[.string ⟨#[]⟩, .int .i64 0, .int .i64 0, .int .i64 0, .int .i64 0, .int .i64 0, .int .i64 0]), 7, 64) := by kernel_rfl

set_option maxHeartbeats 2000000 in
theorem less_any {w : World} {q : Nat} {K : Nat → Prop} {room : Int} {L : List Slot} (h : RefAt w q K room L) (hK : ∀ k, K k → k < w.heap.size) (hL : L.length ≤ 10000) (i : Nat) (hi : i < L.length) :
    Calls Try.prog 40 #[pt q, .int .i64 i] w fun e w' => e = .returned (.tuple #[]) ∧ RefAt w' q K room (L.eraseIdx i) ∧ Fr (fun k => k = q) w w' := by
  obtain ⟨sl, B, hown, hq, hsl⟩ := h
  obtain ⟨g, cap, rfl, hcap, hcm, hx⟩ := own_cells hown (by omega)
  have e1 := B.cell 1
  have f1 := B.frozen 1
  simp at e1
  have q1 : (0 : Int) ≤ (i : Int) := by omega
  have q2 : (i : Int) ≤ (L.length : Int) := by omega
  have q3 : (i : Int) ≤ (cap : Int) := by omega
  have q4 : (i : Int) + 1 ≤ (L.length : Int) := by omega
  have q5 : (0 : Int) ≤ (i : Int) + 1 := by omega
  have q6 : IntKind.i64.wrap ((i : Int) + 1) = (i : Int) + 1 := by simp [IntKind.wrap, IntKind.signed, IntKind.bits]; omega
  have q7 : (L.length : Int) ≤ (cap : Int) := by omega
  have lq := B.lt
  have hal := alloc_old
  obtain ⟨i0, hi0, hz0, hz1, hz2⟩ := info_parts info56
  have own0 : ((w.alloc (.cells #[] 56)).drew).ownsRow w.heap.size 56 7 (.slice (some ⟨w.heap.size, 0, none⟩) 0 0) 0 [] :=
    ⟨rfl, .inr ⟨w.heap.size, 0, #[], rfl, Nat.le_refl _, Blk.new w _ _, Nat.le_refl _, Nat.zero_le _, rfl, rfl⟩⟩
  have lg : g < w.heap.size := by
    have := hx 0 _ (rows_get (L := L) (i := 0) (j := 0) (by decide) (List.getElem?_eq_getElem (by omega)))
    exact World.block_lt_of_cell? w _ this
  have news0 : ∀ j u, (rows (L.take i))[j]? = some u → ((w.alloc (.cells #[] 56)).drew).cell? ((⟨g, 0, none⟩ : Addr).add j) = some u := fun j u hu => by
    rw [← rows_take L i (by omega), List.getElem?_take] at hu
    split at hu
    · have := hx j u hu
      rw [add_none, Nat.zero_add, World.cell?_drew, alloc_old _ _ _ _ lg]
      exact this
    · cases hu
  have len0 : (rows (L.take i)).length = i * 7 := by rw [rows_len, List.length_take, Nat.min_eq_left (by omega)]
  obtain ⟨A, hA, news1⟩ : ∃ A : Addr, (if cap = i + 1 then some (⟨g, 0, none⟩ : Addr) else some ⟨g, (i + 1) * 7, none⟩) = some A ∧ ∀ (w1 : World), (∀ a v, a.block < w.heap.size → w.cell? a = some v → w1.cell? a = some v) → ∀ j u, (rows (L.drop (i + 1)))[j]? = some u → w1.cell? (A.add j) = some u := by
    by_cases hc : cap = i + 1
    · refine ⟨_, by rw [if_pos hc], fun w1 hw j u hu => ?_⟩
      have : L.drop (i + 1) = [] := List.drop_eq_nil_of_le (by omega)
      rw [this] at hu
      simp [rows] at hu
    · refine ⟨_, by rw [if_neg hc], fun w1 hw j u hu => ?_⟩
      rw [add_none]
      refine hw _ _ lg (hx _ _ ?_)
      rw [← rows_drop L (i + 1) (by omega), List.getElem?_drop] at hu
      exact hu
  have HO := Lib.hid hown
  have HX := Lib.hid hx
  have HS := Lib.hid hsl
  clear hown hx hsl
  go_enter Try.func40, Try.ntmps40
  go_wp2_with fail
  have F0 : Fr (fun _ => False) w ((w.alloc (.cells #[] 56)).drew) := ((Fr.refl w).alloc _).drew
  go_region_law (first
      | (refine step_append_at (by rfl) (.tmp 5) (.tmp 11) 51 (by rfl) w.heap.size 56 i0 _ 7 64 Try.underlying51 hi0 hz0 hz1 hz2 rfl (by decide) (.slice (some ⟨w.heap.size, 0, none⟩) 0 0) 0 [] (by rfl) (by exact own0) ⟨g, 0, none⟩ i _ (rows (L.take i)) (by rfl) len0 (by exact news0) row_one (by unfold maxLen; omega) (by omega) (by simp) ?_; intro v1 w1 hown1 hg1 hat1; have F1 : Fr (fun _ => False) w w1 := F0.trans' (Fr.of_grown hg1) (fun i hi h => by simp [Value.ownBlock] at h; omega); have e1' := F1.cell (a := ⟨q, 1, none⟩) e1 (fun h => h); clear hg1)
      | (refine step_append_at (by rfl) (.tmp 12) (.tmp 19) 51 (by rfl) w.heap.size 56 i0 _ 7 64 Try.underlying51 hi0 hz0 hz1 hz2 rfl (by decide) v1 (0 + i) _ (by rfl) (by exact hown1) A _ _ (rows (L.drop (i + 1))) (by rfl) (by rw [rows_len, List.length_drop]) (by exact news1 _ (fun a v ha hv => F1.cell hv (fun h => h))) row_one (by unfold maxLen; omega) (by omega) (by exact F1.size) ?_; intro v2 w2 hown2 hg2 hat2; have F2 : Fr (fun _ => False) w w2 := F1.trans' (Fr.of_grown hg2) (fun i hi h => by have := own_base hown1 i h; omega); obtain ⟨a2, c2, rfl, _, _, _⟩ := own_form7 hown2; have e1'' := F2.cell (a := ⟨q, 1, none⟩) e1 (fun h => h); have f1'' := (B.fr F2 (fun h => h)).frozen 1; clear hg2)
      | fail)
  all_goals
    go_end0
    have hb2 := own_base hown2
    have B2 : Blk w2 q 53 #[.int .i64 room, .slice (some ⟨g, 0, none⟩) L.length cap] := B.fr F2 (fun h => h)
    have hlen : (L.eraseIdx i).length = i + (L.length - (i + 1)) := by rw [List.length_eraseIdx_of_lt hi]; omega
    have hrows : rows (L.eraseIdx i) = rows (L.take i) ++ rows (L.drop (i + 1)) := by rw [← rows_append, List.eraseIdx_eq_take_drop_succ]
    refine ⟨rfl, ⟨.slice a2 (i + (L.length - (i + 1))) c2, B2.set 1 _, ?_, hq, fun k hk => ?_⟩, Fr.setCell (S := fun k => k = q) (p := ⟨q, 1, none⟩) (F2.mono (fun _ _ h => h.elim)) (fun _ => rfl) _⟩
    · rw [hlen, hrows]
      have h0 := own_zero hown2
      simp only [Nat.zero_add, List.nil_append] at h0
      refine ownsRow_fr (S := fun k => k = q) h0 (Fr.setCell (S := fun k => k = q) (p := ⟨q, 1, none⟩) (Fr.refl w2) (fun _ => rfl) _) (fun k hk e => ?_)
      have := (hb2 k (by simpa using hk)).1
      omega
    · have := (hb2 k (by simpa using hk)).1
      exact ⟨by omega, fun hK1 => by have := hK k hK1; omega⟩
end Go.Proofs.Ytjcjebmlibllbaa
