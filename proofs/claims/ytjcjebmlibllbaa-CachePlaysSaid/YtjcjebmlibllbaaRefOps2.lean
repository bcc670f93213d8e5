/-
  The walks of the reference's cache: Next, Put, Get.
-/
import Derived.Test.YtjcjebmlibllbaaRefOps
namespace Go.Q
open Go
theorem next_take {L : List Slot} {k : Nat} {s : Slot} (h : L[k]? = some s) : nextS (L.take (k + 1)) = nextStep (nextS (L.take k)) s := by
  rw [List.take_add_one, h]
  simp [nextS]
theorem next_some {L : List Slot} (h : 0 < L.length) : (nextS L).2 = true := by
  have go : ∀ (L : List Slot) (p : Int × Bool), p.2 = true → (L.foldl nextStep p).2 = true := by
    intro L
    induction L with
    | nil => intro p h; exact h
    | cons x t ih =>
      intro p h
      refine ih _ ?_
      unfold nextStep
      split
      · rfl
      · exact h
  cases L with
  | nil => simp at h
  | cons x t => exact go t _ (by simp [nextStep])
end Go.Q
namespace Go.Proofs.Ytjcjebmlibllbaa
open Go Go.RowKit Go.Q

set_option maxHeartbeats 2000000 in
theorem rnext_any {w : World} {q : Nat} {K : Nat → Prop} {room : Int} {L : List Slot} (h : RefAt w q K room L) (hL : L.length ≤ 10000) :
    Calls Try.prog 20 #[pt q] w fun e w' => e = .returned (.tuple #[.int .i64 (nextS L).1, .bool (nextS L).2]) ∧ w' = w := by
  obtain ⟨sl, B, hown, -, -⟩ := h
  have e1 := B.cell 1
  simp at e1
  clear B
  rcases Nat.eq_zero_or_pos L.length with h0 | h0
  · obtain rfl : L = [] := List.length_eq_zero_iff.1 h0
    obtain ⟨a, cap, rfl, -, -, -⟩ := own_form7 hown
    clear hown h0
    simp only [List.length_nil] at e1
    go_enter Try.func20, Try.ntmps20
    go_wp2_with fail
    exact bodyPost_ret (v := .tuple #[.int .i64 0, .bool false]) (by simp [results, Try.results20, go_sem]) rfl ⟨rfl, rfl⟩
  · obtain ⟨g, cap, rfl, -, -, hx⟩ := own_cells hown h0
    obtain ⟨s0, hs0⟩ : ∃ s, L[0]? = some s := ⟨_, List.getElem?_eq_getElem h0⟩
    have c0 := hx 6 (.int .i64 s0.to) (by have := rows_get (j := 6) (by decide) hs0; rw [Nat.zero_mul, Nat.zero_add] at this; rw [this]; rfl)
    have hn1 : nextS (L.take 1) = (s0.to, true) := by rw [next_take hs0]; simp [nextS, nextStep]
    have HX := Lib.hid hx
    have HN1 := Lib.hid hn1
    have h0' : (0 : Int) < (L.length : Int) := by omega
    have hne : ¬ L.length = 0 := by omega
    have hb : ((L.length : Int) == 0) = false := beq_eq_false_iff_ne.2 (by omega)
    clear hx hn1 hown hs0
    go_enter Try.func20, Try.ntmps20
    go_wp2_with fail
    clear c0
    go_loopg [4, 5] (L.length - 1) (fun gh la i wr => ∃ (k : Nat) (x : Int), gh = L.length - k ∧ 1 ≤ k ∧ k ≤ L.length ∧ i = .int .i64 k ∧ la = .int .i64 x ∧ nextS (L.take k) = (x, true) ∧ wr = w)
    case atStart => exact ⟨1, s0.to, by omega, Nat.le_refl _, h0, rfl, rfl, HN1.out, rfl⟩
    case round =>
      obtain ⟨k, x, hg, hk1, hk, rfl, rfl, hnx, rfl⟩ := hrel
      have HG := Lib.hid hg
      have HNX := Lib.hid hnx
      clear hg hnx
      by_cases hlt : k < L.length
      · obtain ⟨s, hs⟩ : ∃ s, L[k]? = some s := ⟨_, List.getElem?_eq_getElem hlt⟩
        have c0 := HX.out (k * 7 + 6) (.int .i64 s.to) (by rw [rows_get (by decide) hs]; rfl)
        have q1 : (0 : Int) ≤ (k : Int) := by omega
        have q2 : (k : Int) < (L.length : Int) := by omega
        have HS := Lib.hid (next_take hs)
        clear hs
        by_cases hto : s.to < x
        · go_wp2_with fail
          go_roundg (L.length - (k + 1))
          case measure => rw [HG.out]; omega
          case rel => exact ⟨k + 1, s.to, rfl, by omega, by omega, by go_num, rfl, by rw [HS.out, HNX.out]; simp [nextStep, hto], rfl⟩
        · go_wp2_with fail
          go_roundg (L.length - (k + 1))
          case measure => rw [HG.out]; omega
          case rel => exact ⟨k + 1, x, rfl, by omega, by omega, by go_num, rfl, by rw [HS.out, HNX.out]; simp [nextStep]; omega, rfl⟩
      · obtain rfl : k = L.length := by omega
        go_wp2_with fail
        have hn := HNX.out
        rw [List.take_length] at hn
        refine bodyPost_ret (v := .tuple #[.int .i64 x, .bool true]) (by simp [results, Try.results20, go_sem]) rfl ⟨by rw [hn], rfl⟩

set_option maxHeartbeats 2000000 in
theorem in11_any (f t n : Int) (w : World) :
    Calls Try.prog 41 #[.agg #[.int .i64 f, .int .i64 t], .int .i64 n] w fun e w' => e = .returned (.bool (decide (f ≤ n ∧ n ≤ t))) ∧ w' = w.alloc (.cells #[.int .i64 f, .int .i64 t] 31) := by
  by_cases h : f ≤ n
  · go_enter Try.func41, Try.ntmps41
    go_wp2
    go_ret
    exact ⟨by simp [h], rfl⟩
  · have hd : decide (f ≤ n) = false := by simpa using h
    go_enter Try.func41, Try.ntmps41
    go_wp2
    go_ret
    exact ⟨by simp, rfl⟩

set_option maxHeartbeats 2000000 in
theorem rput_any {w : World} {q : Nat} {K : Nat → Prop} {room : Int} {L : List Slot} (h : RefAt w q K room L) (hK : ∀ k, K k → k < w.heap.size) (hL : L.length ≤ 10000) (hn : NK L) (s : Slot) :
    Calls Try.prog 31 #[pt q, .string s.key, .agg #[.int .i64 s.k, .int .i64 s.date, .int .i64 s.reason, .int .i64 s.cause], .agg #[.int .i64 s.fr, .int .i64 s.to]] w fun e w' =>
      e = .returned (.int .i64 (putS room L s).1) ∧ RefAt w' q K room (putS room L s).2 ∧ Fr (fun k => ¬ K k) w w' := by
  obtain ⟨w0, hw0⟩ : ∃ w0, w0 = (w.alloc (.cells #[.int .i64 s.k, .int .i64 s.date, .int .i64 s.reason, .int .i64 s.cause] 29)).alloc (.cells #[.int .i64 s.fr, .int .i64 s.to] 31) := ⟨_, rfl⟩
  obtain ⟨z, hz⟩ : ∃ z, z = w.heap.size := ⟨_, rfl⟩
  have B1 : Blk w0 z 29 #[.int .i64 s.k, .int .i64 s.date, .int .i64 s.reason, .int .i64 s.cause] := by rw [hw0, hz]; exact (Blk.new w _ _).alloc _
  have B2 : Blk w0 (z + 1) 31 #[.int .i64 s.fr, .int .i64 s.to] := by
    rw [hw0, hz]
    have := Blk.new (w.alloc (.cells #[.int .i64 s.k, .int .i64 s.date, .int .i64 s.reason, .int .i64 s.cause] 29)) 31 #[.int .i64 s.fr, .int .i64 s.to]
    simpa using this
  have F0 : Fr (fun _ => False) w w0 := by rw [hw0]; exact ((Fr.refl w).alloc _).alloc _
  obtain ⟨Kz, hKz⟩ : ∃ Kz : Nat → Prop, Kz = fun k => K k ∨ k = z ∨ k = z + 1 := ⟨_, rfl⟩
  have hKz1 : ∀ k, K k → Kz k := fun k h => by rw [hKz]; exact .inl h
  have hKz2 : Kz z ∧ Kz (z + 1) := by rw [hKz]; exact ⟨.inr (.inl rfl), .inr (.inr rfl)⟩
  have hKz3 : ∀ k, Kz k → k < w0.heap.size := fun k h => by
    rw [hKz] at h
    have := B2.lt
    have := F0.size
    rcases h with h | h | h
    · have := hK k h; omega
    · omega
    · omega
  have R0 := h.step (K' := Kz) F0 (fun _ _ h => h.elim) (fun k h => by
    rw [hKz] at h
    rcases h with h | h | h
    · exact .inl h
    · exact .inr (by omega)
    · exact .inr (by omega))
  clear hKz
  have hqK : ¬ K q := by obtain ⟨sl, _, _, hq, _⟩ := h; exact hq
  have hqf : ∀ i, i < w.heap.size → i = q → ¬ K i := fun i _ e => e ▸ hqK
  have hqz : q < z := by obtain ⟨sl, B, _⟩ := h; rw [hz]; exact B.lt
  have G0 : Fr (fun k => k = q) w w0 := F0.mono (fun _ _ h => h.elim)
  have HP := Lib.hid (place_any R0 hL s.key)
  have HW := Lib.hid hw0
  have HZ := Lib.hid hz
  have hz0 : z + 1 < w0.heap.size := B2.lt
  clear hw0 hz F0 h
  go_enter Try.func31, Try.ntmps31
  go_wp2_with fail
  rw [← HW.out, ← HZ.out]
  refine HP.out.mono ?_
  rintro e w1 ⟨rfl, hpl⟩
  have hdl := del_len s.key L
  rcases hpl with ⟨i, t, rfl, hi, hks⟩ | ⟨rfl, hno⟩
  case' inl =>
    have hil : i < L.length := (List.getElem?_eq_some_iff.1 hi).1
    have hE : L.eraseIdx i = del s.key L := hks ▸ erase_del hn hi
    have q3 : (0 : Int) ≤ (i : Int) := by omega
    have HLE := Lib.hid (less_any R0 hKz3 hL i hil)
    have HE := Lib.hid hE
    clear hE hks hi HP HW
    go_wp2_with fail
    refine HLE.out.mono ?_
    rintro e w1 ⟨rfl, R1, F1⟩
    rw [HE.out] at R1
    replace B1 := B1.fr F1 (by omega)
    replace B2 := B2.fr F1 (by omega)
    have G1 := G0.trans F1
    have hz1 := Nat.lt_of_lt_of_le hz0 F1.size
    replace hKz3 : ∀ k, Kz k → k < w1.heap.size := fun k h => Nat.lt_of_lt_of_le (hKz3 k h) F1.size
    clear F1 HLE HE R0 G0 hz0
  case' inr =>
    have R1 := R0
    rw [← del_not hno] at R1
    have G1 := G0
    have hz1 := hz0
    clear HP HW R0 G0 hno hz0
    generalize w0 = w1 at *
  all_goals
    have S1 := B1.cell
    have S2 := B2.cell
    by_cases he : s.to < s.fr
    · go_wp2_with fail
      refine (empty11_any s.fr s.to w1).mono ?_
      rintro e w2 ⟨rfl, rfl⟩
      have F2 : Fr (fun _ => False) w1 (w1.alloc (.cells #[.int .i64 s.fr, .int .i64 s.to] 31)) := (Fr.refl w1).alloc _
      have hd : decide (s.to < s.fr) = true := by simpa using he
      go_wp2_with fail
      go_ret
      rw [show putS room L s = (16, del s.key L) from by simp [putS, he]]
      exact ⟨rfl, R1.step F2 (fun _ _ h => h.elim) (fun k h => .inl (hKz1 k h)), (G1.trans (F2.mono (fun _ _ h => h.elim))).mono hqf⟩
    · have hd : decide (s.to < s.fr) = false := by simpa using he
      go_wp2_with fail
      refine (empty11_any s.fr s.to w1).mono ?_
      rintro e w2 ⟨rfl, rfl⟩
      have F2 : Fr (fun _ => False) w1 (w1.alloc (.cells #[.int .i64 s.fr, .int .i64 s.to] 31)) := (Fr.refl w1).alloc _
      replace B1 := B1.fr F2 (fun h => h)
      replace B2 := B2.fr F2 (fun h => h)
      have R2 := R1.step (K' := Kz) F2 (fun _ _ h => h.elim) (fun _ h => .inl h)
      have G2 := G1.trans (F2.mono (fun _ _ h => h.elim))
      have hz2 := Nat.lt_of_lt_of_le hz1 F2.size
      replace hKz3 : ∀ k, Kz k → k < (w1.alloc (.cells #[.int .i64 s.fr, .int .i64 s.to] 31)).heap.size := fun k h => Nat.lt_of_lt_of_le (hKz3 k h) F2.size
      rw [hd]
      clear S1 S2 R1 G1 hz1 F2
      generalize (w1.alloc (.cells #[.int .i64 s.fr, .int .i64 s.to] 31)) = w2 at *
      generalize hM : del s.key L = M at *
      have HM := Lib.hid hM
      clear hM
      by_cases hr : room = 0
      · subst hr
        have HR2 := Lib.hid R2
        obtain ⟨sl, BQ, -, -, -⟩ := R2
        have e0 := BQ.cell 0
        simp at e0
        go_wp2_with fail
        go_ret
        rw [show putS 0 L s = (2, M) from by simp [putS, he, HM.out]]
        exact ⟨rfl, HR2.out.step (Fr.refl w2) (fun _ _ h => h) (fun k h => .inl (hKz1 k h)), G2.mono hqf⟩
      · have HR2 := Lib.hid R2
        obtain ⟨sl, BQ, hown, -, -⟩ := R2
        obtain ⟨a, cap, rfl, -, -, -⟩ := own_form7 hown
        have e0 := BQ.cell 0
        have e1 := BQ.cell 1
        simp at e0 e1
        clear hown
        rcases Classical.em ((M.length : Int) = room) with hful | hful
        case' inl =>
          have hpos : 0 < M.length := by omega
          have HLE := Lib.hid (fun n => less_any (HR2.out.step (K' := Kz) (S := fun _ => False) ((Fr.refl w2).drewN n) (fun _ _ h => h.elim) (fun _ h => .inl h)) hKz3 (by omega) 0 hpos)
          go_wp2_with fail
          go_quiet (fail)
          go_wp2_with fail
          refine (HLE.out nq).mono ?_
          rintro e w4 ⟨rfl, R4, F4⟩
          have F5 : Fr (fun k => k = q) w2 w4 := ((Fr.refl w2).drewN nq).trans F4
          replace B1 := B1.fr F5 (by omega)
          replace B2 := B2.fr F5 (by omega)
          have G4 := G2.trans F5
          rw [show M.eraseIdx 0 = M.tail from by cases M <;> rfl] at R4
          have hN0 : putS room L s = (0, M.tail ++ [s]) := by simp [putS, HM.out, hr, hful]; omega
          have HN := Lib.hid hN0
          clear hN0
          have hN : M.tail.length ≤ 10000 := by rw [List.length_tail]; omega
          generalize M.tail = N at *
          clear F4 F5 HLE HR2 BQ G2 hz2 e0 e1
          go_upto_region 10 with fail
        case' inr =>
          go_wp2_with fail
          go_quiet (fail)
          have F5 : Fr (fun _ => False) w2 (w2.drewN nq) := (Fr.refl w2).drewN nq
          have R4 := HR2.out.step (K' := Kz) F5 (fun _ _ h => h.elim) (fun _ h => .inl h)
          replace B1 := B1.fr F5 (fun h => h)
          replace B2 := B2.fr F5 (fun h => h)
          have G4 := G2.drewN nq
          have hN0 : putS room L s = (0, M ++ [s]) := by simp [putS, HM.out, hr, hful]; omega
          have HN := Lib.hid hN0
          clear hN0
          have hN : M.length ≤ 10000 := by omega
          generalize M = N at *
          clear F5 HR2 BQ G2 hz2 e0 e1
          go_upto_region 10 with fail
          generalize w2.drewN nq = w4 at *
        all_goals
          have HR4 := Lib.hid R4
          obtain ⟨sl, BQ, hown, hq4, hsl⟩ := R4
          have S1 := B1.cell
          have S2 := B2.cell
          have e1 := BQ.cell 1
          simp at e1
          have lq : q < w4.heap.size := BQ.lt
          have hz4 : z + 1 < w4.heap.size := B2.lt
          have hzc : w4.heap.size ≠ z ∧ w4.heap.size ≠ z + 1 := by omega
          obtain ⟨i0, hi0, hz0, hz1, hz2⟩ := info_parts info56
          obtain ⟨X, hX⟩ : ∃ X, X = Obj.cells #[.string s.key, .int .i64 s.k, .int .i64 s.date, .int .i64 s.reason, .int .i64 s.cause, .int .i64 s.fr, .int .i64 s.to] 56 := ⟨_, rfl⟩
          have F6 : Fr (fun _ => False) w4 ((w4.alloc X).drew) := ((Fr.refl w4).alloc _).drew
          have own6 : ((w4.alloc X).drew).ownsRow 0 56 7 sl N.length (rows N) := ownsRow_fr hown F6 (fun _ _ h => h)
          have news6 : ∀ j u, (row s)[j]? = some u → ((w4.alloc X).drew).cell? ((⟨w4.heap.size, 0, none⟩ : Addr).add j) = some u := by
            rw [hX]
            exact World.news_of_block (cs := #[.string s.key, .int .i64 s.k, .int .i64 s.date, .int .i64 s.reason, .int .i64 s.cause, .int .i64 s.fr, .int .i64 s.to]) (t := 56) (fr := (0, 0)) (Blk.new w4 _ _)
          have one6 : ∀ u ∈ row s, u.oneCell' = true := by have := row_one (L := [s]); simpa [rows] using this
          have B6 : Blk ((w4.alloc X).drew) z _ _ := B1.fr F6 (fun h => h)
          have C6 : Blk ((w4.alloc X).drew) (z + 1) _ _ := B2.fr F6 (fun h => h)
          have e6 := F6.cell (a := ⟨q, 1, none⟩) e1 (fun h => h)
          rw [hX] at own6 news6 B6 C6 e6 F6
          have hbs := own_base hown
          clear hX hown
          go_region_law (first
            | (refine step_append_at (by rfl) (.tmp 41) (.tmp 46) 51 (by rfl) 0 56 i0 _ 7 64 Try.underlying51 hi0 hz0 hz1 hz2 rfl (by decide) sl N.length (rows N) (by rfl) (by exact own6) ⟨w4.heap.size, 0, none⟩ 1 _ (row s) (by rfl) rfl (by exact news6) one6 (by unfold maxLen; omega) (by omega) (Nat.zero_le _) ?_; intro v7 w7 hown7 hg7 hat7; have F7 := Fr.of_grown hg7; have B7 := B6.fr F7 (fun e => (hsl z e).2 hKz2.1); have C7 := C6.fr F7 (fun e => (hsl (z + 1) e).2 hKz2.2); have Q7 := (BQ.fr F6 (fun h => h)).fr F7 (fun e => (hsl q e).1 rfl); obtain ⟨a7, c7, rfl, _, _, _⟩ := own_form7 hown7; have e7 := Q7.cell 1; have f7 := Q7.frozen 1; simp only [List.getElem?_toArray, List.getElem?_cons_succ, List.getElem?_cons_zero] at e7)
            | fail)
          all_goals
            go_wp2_with fail
            go_ret
            rw [HN.out]
            have hsz : w.heap.size ≤ w4.heap.size := G4.size
            have hne : ∀ k, (Value.slice a7 (N.length + 1) c7).ownBlock = some k → k ≠ q ∧ ¬ K k := fun k hk => by
              rcases hat7 with h | h
              · rw [h] at hk
                exact ⟨(hsl k hk).1, fun hK1 => (hsl k hk).2 (hKz1 k hK1)⟩
              · rw [h] at hk
                simp only [World.size_drew, World.size_alloc, Option.some.injEq] at hk
                exact ⟨by omega, fun hK1 => by have := hK k hK1; omega⟩
            have G7 : Fr (fun k => ¬ K k) w w7 := ((G4.mono hqf).trans (F6.mono (fun _ _ h => h.elim))).trans' F7 (fun i hi h hK1 => (hsl i h).2 (hKz1 i hK1))
            refine ⟨rfl, ⟨.slice a7 (N.length + 1) c7, Q7.set 1 _, ?_, fun h => hq4 (hKz1 q h), hne⟩, G7.setCell (p := ⟨q, 1, none⟩) (fun _ => hqK) _⟩
            rw [rows_append, show rows [s] = row s from by simp [rows], List.length_append]
            exact ownsRow_fr (S := fun k => k = q) hown7 (Fr.setCell (S := fun k => k = q) (p := ⟨q, 1, none⟩) (Fr.refl w7) (fun _ => rfl) _) (fun k hk e => (hne k hk).1 e)
end Go.Proofs.Ytjcjebmlibllbaa
