/-
  The walk of the reference's cache: Get; and the translation of a status.
-/
import Derived.Test.YtjcjebmlibllbaaRefOps2
namespace Go.Proofs.Ytjcjebmlibllbaa
open Go Go.RowKit Go.Q

theorem set4 {w : World} {z : Nat} {t : TypeId} {x y u v : Value} (h : Blk w z t #[x, y, u, v]) (a b c d : Value) :
    Blk ((((w.setCell ⟨z, 0, none⟩ a).setCell ⟨z, 1, none⟩ b).setCell ⟨z, 2, none⟩ c).setCell ⟨z, 3, none⟩ d) z t #[a, b, c, d] ∧ Fr (fun k => k = z) w ((((w.setCell ⟨z, 0, none⟩ a).setCell ⟨z, 1, none⟩ b).setCell ⟨z, 2, none⟩ c).setCell ⟨z, 3, none⟩ d) := by
  have G : ∀ {w' : World}, Fr (fun k => k = z) w w' → ∀ (i : Nat) (v : Value), Fr (fun k => k = z) w (w'.setCell ⟨z, i, none⟩ v) := fun f i v => Fr.setCell (S := fun k => k = z) (p := ⟨z, i, none⟩) f (fun _ => rfl) v
  refine ⟨?_, G (G (G (G (Fr.refl w) _ _) _ _) _ _) _ _⟩
  have := (((h.set 0 a).set 1 b).set 2 c).set 3 d
  simpa using this

theorem of_any (a b c d : Int) (w : World) :
    Calls Try.prog 33 #[.agg #[.int .i64 a, .int .i64 b, .int .i64 c, .int .i64 d]] w fun e w' => e = .returned (.agg #[.int .i64 a, .int .i64 b, .int .i64 c, .int .i64 d]) ∧ Fr (fun _ => False) w w' := by
  go_enter Try.func33, Try.ntmps33
  go_wp2_with fail
  refine bodyPost_ret (v := .agg #[.int .i64 a, .int .i64 b, .int .i64 c, .int .i64 d]) (by simp [results, Try.results33, go_sem]) rfl ⟨rfl, ?_⟩
  exact ((Fr.refl w).alloc _).alloc _

set_option maxHeartbeats 2000000 in
theorem rget_any {w : World} {q : Nat} {K : Nat → Prop} {room : Int} {L : List Slot} (h : RefAt w q K room L) (hK : ∀ k, K k → k < w.heap.size) (hL : L.length ≤ 10000) (hn : NK L) (key : ByteArray) (now : Int) :
    Calls Try.prog 32 #[pt q, .string key, .int .i64 now] w fun e w' =>
      e = .returned (told (getS L key now).1) ∧ RefAt w' q K room (getS L key now).2 ∧ Fr (fun k => ¬ K k) w w' := by
  obtain ⟨w0, hw0⟩ : ∃ w0, w0 = w.alloc (.cells #[.int .i64 0, .int .i64 0, .int .i64 0, .int .i64 0] 29) := ⟨_, rfl⟩
  obtain ⟨z, hz⟩ : ∃ z, z = w.heap.size := ⟨_, rfl⟩
  have B1 : Blk w0 z 29 #[.int .i64 0, .int .i64 0, .int .i64 0, .int .i64 0] := by rw [hw0, hz]; exact Blk.new w _ _
  have F0 : Fr (fun _ => False) w w0 := by rw [hw0]; exact (Fr.refl w).alloc _
  obtain ⟨Kz, hKz⟩ : ∃ Kz : Nat → Prop, Kz = fun k => K k ∨ k = z := ⟨_, rfl⟩
  have hKz1 : ∀ k, K k → Kz k := fun k h => by rw [hKz]; exact .inl h
  have hKz2 : Kz z := by rw [hKz]; exact .inr rfl
  have hKz3 : ∀ k, Kz k → k < w0.heap.size := fun k h => by
    rw [hKz] at h
    have := B1.lt
    have := F0.size
    rcases h with h | h
    · have := hK k h; omega
    · omega
  have R0 := h.step (K' := Kz) F0 (fun _ _ h => h.elim) (fun k h => by
    rw [hKz] at h
    rcases h with h | h
    · exact .inl h
    · exact .inr (by omega))
  have hqK : ¬ K q := by obtain ⟨sl, _, _, hq, _⟩ := h; exact hq
  have hqf : ∀ i, i < w.heap.size → i = q → ¬ K i := fun i _ e => e ▸ hqK
  have hzK : ∀ k, K k → k ≠ z := fun k hk => by have := hK k hk; omega
  have hqz : q < z := by obtain ⟨sl, B, _⟩ := h; rw [hz]; exact B.lt
  have G0 : Fr (fun k => k = q) w w0 := F0.mono (fun _ _ h => h.elim)
  have hzs : w.heap.size ≤ z := by omega
  have HP := Lib.hid (place_any R0 hL key)
  have HW := Lib.hid hw0
  have HZ := Lib.hid hz
  have HKZ := Lib.hid hKz
  clear hw0 hz F0 h hKz
  go_enter Try.func32, Try.ntmps32
  go_wp2_with fail
  rw [← HW.out, ← HZ.out]
  refine HP.out.mono ?_
  rintro e w1 ⟨rfl, hpl⟩
  rcases hpl with ⟨i, t, rfl, hi, hks⟩ | ⟨rfl, hno⟩
  · have hil : i < L.length := (List.getElem?_eq_some_iff.1 hi).1
    have hE : L.eraseIdx i = del key L := hks ▸ erase_del hn hi
    have hlk : lookS key L = some t := hks ▸ look_nk hn (List.mem_of_getElem? hi)
    have HS := Lib.hid (And.intro hE hlk)
    have q1 : (0 : Int) ≤ (i : Int) := by omega
    have q2 : (i : Int) < (L.length : Int) := by omega
    have HR0 := Lib.hid R0
    obtain ⟨sl, BQ, hown, -, -⟩ := R0
    obtain ⟨g, cap, rfl, hcap, hcm, hx⟩ := own_cells hown (by omega)
    have e1 := BQ.cell 1
    simp at e1
    have c0 := hx (i * 7 + 0) (.string t.key) (by rw [rows_get (by decide) hi]; rfl)
    have c1 := hx (i * 7 + 1) (.int .i64 t.k) (by rw [rows_get (by decide) hi]; rfl)
    have c2 := hx (i * 7 + 2) (.int .i64 t.date) (by rw [rows_get (by decide) hi]; rfl)
    have c3 := hx (i * 7 + 3) (.int .i64 t.reason) (by rw [rows_get (by decide) hi]; rfl)
    have c4 := hx (i * 7 + 4) (.int .i64 t.cause) (by rw [rows_get (by decide) hi]; rfl)
    have c5 := hx (i * 7 + 5) (.int .i64 t.fr) (by rw [rows_get (by decide) hi]; rfl)
    have c6 := hx (i * 7 + 6) (.int .i64 t.to) (by rw [rows_get (by decide) hi]; rfl)
    simp only [Nat.add_zero] at c0
    clear hE hlk hks hi hx hown HP HW
    have lg : g < w0.heap.size := World.block_lt_of_cell? w0 _ c0
    go_wp2_with fail
    clear c0 c1 c2 c3 c4 c5 c6 e1 BQ
    obtain ⟨y, hy⟩ : ∃ y, y = w0.heap.size := ⟨_, rfl⟩
    have B3 := Blk.new w0 56 #[.string t.key, .int .i64 t.k, .int .i64 t.date, .int .i64 t.reason, .int .i64 t.cause, .int .i64 t.fr, .int .i64 t.to]
    have F1 : Fr (fun _ => False) w0 (w0.alloc (.cells #[.string t.key, .int .i64 t.k, .int .i64 t.date, .int .i64 t.reason, .int .i64 t.cause, .int .i64 t.fr, .int .i64 t.to] 56)) := (Fr.refl w0).alloc _
    obtain ⟨Ky, hKy⟩ : ∃ Ky : Nat → Prop, Ky = fun k => Kz k ∨ k = y := ⟨_, rfl⟩
    have hKy1 : ∀ k, Kz k → Ky k := fun k h => by rw [hKy]; exact .inl h
    have hKy2 : Ky y := by rw [hKy]; exact .inr rfl
    have R1 := HR0.out.step (K' := Ky) F1 (fun _ _ h => h.elim) (fun k h => by
      rw [hKy] at h
      rcases h with h | h
      · exact .inl h
      · exact .inr (by omega))
    rw [← hy] at B3 ⊢
    have hyz : z < y := by rw [hy]; exact B1.lt
    replace B1 := B1.fr F1 (fun h => h)
    have G1 := G0.trans (F1.mono (fun _ _ h => h.elim))
    have hKy3 : ∀ k, Ky k → k < (w0.alloc (.cells #[.string t.key, .int .i64 t.k, .int .i64 t.date, .int .i64 t.reason, .int .i64 t.cause, .int .i64 t.fr, .int .i64 t.to] 56)).heap.size := fun k h => by
      rw [hKy] at h
      have := F1.size
      rcases h with h | h
      · exact Nat.lt_of_lt_of_le (hKz3 k h) this
      · rw [h]; exact B3.lt
    clear hKy F1 HR0 hKz3 G0 hy lg
    generalize (w0.alloc (.cells #[.string t.key, .int .i64 t.k, .int .i64 t.date, .int .i64 t.reason, .int .i64 t.cause, .int .i64 t.fr, .int .i64 t.to] 56)) = w1 at *
    refine (less_any R1 hKy3 hL i hil).mono ?_
    rintro e w2 ⟨rfl, R2, F2⟩
    rw [HS.out.1] at R2
    replace B1 := B1.fr F2 (by omega)
    replace B3 := B3.fr F2 (by omega)
    have G2 := G1.trans F2
    replace hKy3 : ∀ k, Ky k → k < w2.heap.size := fun k h => Nat.lt_of_lt_of_le (hKy3 k h) F2.size
    have hdl := del_len key L
    clear F2 G1 R1 q1 q2 hil
    generalize hM : del key L = M at *
    have HM := Lib.hid hM
    clear hM
    have S3 := B3.cell
    go_wp2_with fail
    refine (in11_any t.fr t.to now w2).mono ?_
    rintro e w3 ⟨rfl, hw3⟩
    have F3 : Fr (fun _ => False) w2 w3 := by rw [hw3]; exact (Fr.refl w2).alloc _
    replace B1 := B1.fr F3 (fun h => h)
    replace B3 := B3.fr F3 (fun h => h)
    have R3 := R2.step (K' := Ky) F3 (fun _ _ h => h.elim) (fun _ h => .inl h)
    have G3 := G2.trans (F3.mono (fun _ _ h => h.elim))
    replace hKy3 : ∀ k, Ky k → k < w3.heap.size := fun k h => Nat.lt_of_lt_of_le (hKy3 k h) F3.size
    clear hw3 F3 R2 G2 S3
    have S1 := B1.cell
    have Z1 := B1.frozen
    have S3 := B3.cell
    by_cases hin : t.fr ≤ now ∧ now ≤ t.to
    · have hg : getS L key now = (some t, M ++ [t]) := by simp [getS, HS.out.2, hin, HM.out]
      have HG := Lib.hid hg
      have hd : decide (t.fr ≤ now ∧ now ≤ t.to) = true := by simpa using hin
      rw [hd]
      clear hg hin hd HM HS
      obtain ⟨sl, BQ, hown, hq4, hsl⟩ := R3
      obtain ⟨a, cap, rfl, -, -, -⟩ := own_form7 hown
      have e1 := BQ.cell 1
      simp at e1
      have lq : q < w3.heap.size := BQ.lt
      have ly : y < w3.heap.size := B3.lt
      have HO := Lib.hid hown
      clear hown
      have hqy : q ≠ y := by omega
      obtain ⟨i0, hi0, hz0, hz1, hz2⟩ := info_parts info56
      have F6 : Fr (fun _ => False) w3 ((w3.alloc (.cells #[.string t.key, .int .i64 t.k, .int .i64 t.date, .int .i64 t.reason, .int .i64 t.cause, .int .i64 t.fr, .int .i64 t.to] 56)).drew) := ((Fr.refl w3).alloc _).drew
      have own6 := Lib.hid (ownsRow_fr HO.out F6 (fun _ _ h => h))
      have news6 : ∀ j u, (row t)[j]? = some u → ((w3.alloc (.cells #[.string t.key, .int .i64 t.k, .int .i64 t.date, .int .i64 t.reason, .int .i64 t.cause, .int .i64 t.fr, .int .i64 t.to] 56)).drew).cell? ((⟨w3.heap.size, 0, none⟩ : Addr).add j) = some u :=
        World.news_of_block (cs := #[.string t.key, .int .i64 t.k, .int .i64 t.date, .int .i64 t.reason, .int .i64 t.cause, .int .i64 t.fr, .int .i64 t.to]) (t := 56) (fr := (0, 0)) (Blk.new w3 _ _)
      have one6 : ∀ u ∈ row t, u.oneCell' = true := by have := row_one (L := [t]); simpa [rows] using this
      have N6 := Lib.hid news6
      clear news6
      have C1 : Blk ((w3.alloc (.cells #[.string t.key, .int .i64 t.k, .int .i64 t.date, .int .i64 t.reason, .int .i64 t.cause, .int .i64 t.fr, .int .i64 t.to] 56)).drew) z _ _ := B1.fr F6 (fun h => h)
      have C3 : Blk ((w3.alloc (.cells #[.string t.key, .int .i64 t.k, .int .i64 t.date, .int .i64 t.reason, .int .i64 t.cause, .int .i64 t.fr, .int .i64 t.to] 56)).drew) y _ _ := B3.fr F6 (fun h => h)
      have e6 := F6.cell (a := ⟨q, 1, none⟩) e1 (fun h => h)
      have hbs := own_base HO.out
      go_upto_region 8 with fail
      go_region_law (first
        | (refine step_append_at (by rfl) (.tmp 36) (.tmp 38) 51 (by rfl) 0 56 i0 _ 7 64 Try.underlying51 hi0 hz0 hz1 hz2 rfl (by decide) (.slice a M.length cap) M.length (rows M) (by rfl) (by exact own6.out) ⟨w3.heap.size, 0, none⟩ 1 _ (row t) (by rfl) rfl (by exact N6.out) one6 (by unfold maxLen; omega) (by omega) (Nat.zero_le _) ?_; intro v7 w7 hown7 hg7 hat7; have F7 := Fr.of_grown hg7; have B7 := C1.fr F7 (fun e => (hsl z e).2 (hKy1 z hKz2)); have C7 := C3.fr F7 (fun e => (hsl y e).2 hKy2); have Q7 := (BQ.fr F6 (fun h => h)).fr F7 (fun e => (hsl q e).1 rfl); obtain ⟨a7, c7, rfl, _, _, _⟩ := own_form7 hown7; have e7 := Q7.cell 1; have f7 := Q7.frozen 1; simp only [List.getElem?_toArray, List.getElem?_cons_succ, List.getElem?_cons_zero] at e7)
        | fail)
      all_goals
        have S7 := B7.cell
        have Z7 := B7.frozen
        have T7 := C7.cell
        have hqz' : q ≠ z := by omega
        have hyz' : z ≠ y := by omega
        have G7 : Fr (fun k => ¬ K k) w w7 := ((G3.mono hqf).trans (F6.mono (fun _ _ h => h.elim))).trans' F7 (fun i hi h hK1 => (hsl i h).2 (hKy1 i (hKz1 i hK1)))
        have G8 : Fr (fun k => ¬ K k) w (w7.setCell ⟨q, 1, none⟩ (.slice a7 (M.length + 1) c7)) := G7.setCell (p := ⟨q, 1, none⟩) (fun _ => hqK) _
        have B8 : Blk (w7.setCell ⟨q, 1, none⟩ (.slice a7 (M.length + 1) c7)) z _ _ := B7.set_other (a := ⟨q, 1, none⟩) (fun e => hqz' e.symm) _
        have Q8 := Q7.set 1 (.slice a7 (M.length + 1) c7)
        have hne : ∀ k, (Value.slice a7 (M.length + 1) c7).ownBlock = some k → k ≠ q ∧ ¬ Kz k := fun k hk => by
          rcases hat7 with h | h
          · rw [h] at hk
            exact ⟨(hsl k hk).1, fun hK1 => (hsl k hk).2 (hKy1 k hK1)⟩
          · rw [h] at hk
            simp only [World.size_drew, World.size_alloc, Option.some.injEq] at hk
            exact ⟨by omega, fun hK1 => by have := hKy3 k (hKy1 k hK1); omega⟩
        have hR8 : RefAt (w7.setCell ⟨q, 1, none⟩ (.slice a7 (M.length + 1) c7)) q Kz room (M ++ [t]) := by
          refine ⟨.slice a7 (M.length + 1) c7, Q8, ?_, fun h => hq4 (hKy1 q h), hne⟩
          rw [rows_append, show rows [t] = row t from by simp [rows], List.length_append]
          exact ownsRow_fr (S := fun k => k = q) hown7 (Fr.setCell (S := fun k => k = q) (p := ⟨q, 1, none⟩) (Fr.refl w7) (fun _ => rfl) _) (fun k hk e => (hne k hk).1 e)
        have HR8 := Lib.hid hR8
        clear hR8 hne hat7 hown7 hg7 Q7 Q8 C1 C3 own6 N6 HO
        go_wp2_with fail
        obtain ⟨B5, F5⟩ := set4 B8 (.int .i64 t.k) (.int .i64 t.date) (.int .i64 t.reason) (.int .i64 t.cause)
        have G5 : Fr (fun k => ¬ K k) w _ := G8.trans' F5 (fun i hi h => absurd h (by omega))
        have R8 := HR8.out
        generalize (w7.setCell ⟨q, 1, none⟩ (.slice a7 (M.length + 1) c7)) = w8 at *
        generalize ((((w8.setCell ⟨z, 0, none⟩ (.int .i64 t.k)).setCell ⟨z, 1, none⟩ (.int .i64 t.date)).setCell ⟨z, 2, none⟩ (.int .i64 t.reason)).setCell ⟨z, 3, none⟩ (.int .i64 t.cause)) = w5 at *
        have n0 := B5.cell 0
        have n1 := B5.cell 1
        have n2 := B5.cell 2
        have n3 := B5.cell 3
        simp at n0 n1 n2 n3
        refine bodyPost_ret (v := told (some t)) (by simp [results, Try.results32, go_sem, told, n0, n1, n2, n3]) rfl ?_
        rw [HG.out]
        exact ⟨rfl, R8.step F5 (fun k _ e => e ▸ hKz2) (fun k h => .inl (hKz1 k h)), G5⟩
    · have hg : getS L key now = (none, M) := by simp [getS, HS.out.2, hin, HM.out]
      have HG := Lib.hid hg
      have hd : decide (t.fr ≤ now ∧ now ≤ t.to) = false := by simpa using hin
      rw [hd]
      clear hg hin hd HM HS
      go_wp2_with fail
      obtain ⟨B5, F5⟩ := set4 B1 (.int .i64 0) (.int .i64 0) (.int .i64 0) (.int .i64 0)
      have G5 : Fr (fun k => ¬ K k) w _ := (G3.mono hqf).trans' F5 (fun i hi h => absurd h (by omega))
      generalize ((((w3.setCell ⟨z, 0, none⟩ (.int .i64 0)).setCell ⟨z, 1, none⟩ (.int .i64 0)).setCell ⟨z, 2, none⟩ (.int .i64 0)).setCell ⟨z, 3, none⟩ (.int .i64 0)) = w5 at *
      have n0 := B5.cell 0
      have n1 := B5.cell 1
      have n2 := B5.cell 2
      have n3 := B5.cell 3
      simp at n0 n1 n2 n3
      refine bodyPost_ret (v := told none) (by simp [results, Try.results32, go_sem, told, n0, n1, n2, n3]) rfl ?_
      rw [HG.out]
      exact ⟨rfl, R3.step F5 (fun k _ e => e ▸ hKy1 z hKz2) (fun k h => .inl (hKy1 k (hKz1 k h))), G5⟩
  · have hlk : lookS key L = none := lookS_none hno
    have hg : getS L key now = (none, L) := by simp [getS, hlk]
    have HG := Lib.hid hg
    have S1 := B1.cell
    have Z1 := B1.frozen
    clear hlk hno hg HP HW
    go_wp2_with fail
    obtain ⟨B5, F5⟩ := set4 B1 (.int .i64 0) (.int .i64 0) (.int .i64 0) (.int .i64 0)
    have G5 : Fr (fun k => ¬ K k) w _ := (G0.mono hqf).trans' F5 (fun i hi h => absurd h (by omega))
    generalize ((((w0.setCell ⟨z, 0, none⟩ (.int .i64 0)).setCell ⟨z, 1, none⟩ (.int .i64 0)).setCell ⟨z, 2, none⟩ (.int .i64 0)).setCell ⟨z, 3, none⟩ (.int .i64 0)) = w5 at *
    have n0 := B5.cell 0
    have n1 := B5.cell 1
    have n2 := B5.cell 2
    have n3 := B5.cell 3
    simp at n0 n1 n2 n3
    refine bodyPost_ret (v := told none) (by simp [results, Try.results32, go_sem, told, n0, n1, n2, n3]) rfl ?_
    rw [HG.out]
    exact ⟨rfl, R0.step F5 (fun k _ e => e ▸ hKz2) (fun k h => .inl (hKz1 k h)), G5⟩
end Go.Proofs.Ytjcjebmlibllbaa
