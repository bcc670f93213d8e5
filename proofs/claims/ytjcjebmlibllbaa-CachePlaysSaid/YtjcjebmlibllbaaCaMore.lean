/-
  The walks of the cache's Room, Tick, Next, Clear.
-/
import Derived.Test.YtjcjebmlibllbaaCaDrop
import Derived.Test.YtjcjebmlibllbaaCaKeys
namespace Go.Q
open Go
/-- Tick: how many went, and what is kept. -/
def tickS (L : List Slot) (now : Int) : Nat × List Slot := ((L.filter fun s => decide (s.to < now)).length, L.filter fun s => ! decide (s.to < now))
def nextStep (p : Int × Bool) (s : Slot) : Int × Bool := if p.2 = false ∨ s.to < p.1 then (s.to, true) else p
/-- Next: the first end of a span. -/
def nextS (L : List Slot) : Int × Bool := L.foldl nextStep (0, false)
end Go.Q
namespace Go.Proofs.Ytjcjebmlibllbaa
open Go Go.RowKit Go.Q

theorem room_any {w : World} {c : Nat} {K : Nat → Prop} {room : Int} {L : List Slot} (h : Away w c K room L) :
    Calls Try.prog 18 #[pt c] w fun e w' => e = .returned (.int .i64 room) ∧ w = w' := by
  obtain ⟨r, m, bs, D, hC, hk, hL⟩ := h
  have ec := hC.cc.cell 0
  simp at ec
  clear hC hk hL
  go_enter Try.func18, Try.ntmps18
  go_wp2_with fail
  go_ret
  exact ⟨rfl, rfl⟩

/-- What Tick's callback leaves. -/
def Ticked (w w' : World) (c r m b bn bc bt : Nat) (room now cnt : Int) (bs : List Nat) (D : Nat → Slot) : Prop :=
  CacheAt w' c r m room (if (D b).to < now then bs.erase b else bs) D ∧ Blk w' bn 3 #[.int .i64 now] ∧ Blk w' bc 24 #[pt c] ∧ Blk w' bt 3 #[.int .i64 (if (D b).to < now then cnt + 1 else cnt)] ∧ Fr (fun k => k = bt ∨ k ∈ c :: m :: r :: bs) w w'

set_option maxHeartbeats 1000000 in
theorem tick1_any (w : World) (c r m b bn bc bt : Nat) (room now cnt : Int) (bs : List Nat) (D : Nat → Slot) (hC : CacheAt w c r m room bs D) (hb : b ∈ bs)
    (Bn : Blk w bn 3 #[.int .i64 now]) (Bc : Blk w bc 24 #[pt c]) (Bt : Blk w bt 3 #[.int .i64 cnt]) (hd : bc ≠ bt ∧ bn ≠ bt) (ho : ∀ k, k = bn ∨ k = bc ∨ k = bt → k ∉ c :: m :: r :: bs)
    (hcnt : 0 ≤ cnt ∧ cnt ≤ 1000000) :
    Calls Try.prog 37 #[pt b, pt bn, pt bc, pt bt] w fun e w' => e = .returned (.tuple #[]) ∧
      Ticked w w' c r m b bn bc bt room now cnt bs D := by
  obtain ⟨A, H, R⟩ := hC.ring
  have kb := (R.blk b (by simp [hb])).cell 8
  simp [slotCells] at kb
  have e1 := Bn.cell 0
  have e2 := Bc.cell 0
  have e3 := Bt.cell 0
  simp at e1 e2 e3
  clear R
  go_enter Try.func37, Try.ntmps37
  by_cases hlt : (D b).to < now
  · have HC := Lib.hid hC
    have HO := Lib.hid ho
    have HB := Lib.hid hb
    clear hC ho hb
    go_wp2_with fail
    go_quiet (fail)
    have hg := gone_any (w.drewN nq) c r m b room bs D (HC.out.fr ((Fr.refl w).drewN (S := fun _ => False) nq) (fun _ _ h => h)) HB.out
    have HG := Lib.hid hg
    have n1 : Blk (w.drewN nq) bn 3 #[.int .i64 now] := Bn.fr ((Fr.refl w).drewN (S := fun _ => False) nq) (fun h => h)
    have n2 : Blk (w.drewN nq) bc 24 #[pt c] := Bc.fr ((Fr.refl w).drewN (S := fun _ => False) nq) (fun h => h)
    have n3 : Blk (w.drewN nq) bt 3 #[.int .i64 cnt] := Bt.fr ((Fr.refl w).drewN (S := fun _ => False) nq) (fun h => h)
    have G0 : Fr (fun k => k = bt ∨ k ∈ c :: m :: r :: bs) w (w.drewN nq) := (Fr.refl w).drewN nq
    clear hg Bn Bc Bt kb e1 e2 e3 HC
    generalize w.drewN nq = w1 at *
    have e2 := n2.cell 0
    simp at e2
    go_wp2_with fail
    refine HG.out.mono ?_
    rintro e w2 ⟨rfl, C2, F2⟩
    replace n1 := n1.fr F2 (HO.out bn (.inl rfl))
    replace n2 := n2.fr F2 (HO.out bc (.inr (.inl rfl)))
    replace n3 := n3.fr F2 (HO.out bt (.inr (.inr rfl)))
    have e3 := n3.cell 0
    have f3 := n3.frozen 0
    simp at e3
    go_wp2_with fail
    go_end0
    refine ⟨rfl, ?_, n1.set_other hd.2 _, n2.set_other hd.1 _, ?_, (G0.trans (F2.mono (fun _ _ h => .inr h))).setCell (p := ⟨bt, 0, none⟩) (fun _ => .inl rfl) _⟩
    · rw [if_pos hlt]
      exact C2.fr (S := fun k => k = bt) (Fr.setCell (S := fun k => k = bt) (p := ⟨bt, 0, none⟩) (Fr.refl w2) (fun _ => rfl) _) (fun k hk e => HO.out bt (.inr (.inr rfl)) (by
        subst e
        simp only [List.mem_cons] at hk ⊢
        rcases hk with h | h | h | h
        · exact .inl h
        · exact .inr (.inl h)
        · exact .inr (.inr (.inl h))
        · exact .inr (.inr (.inr (List.mem_of_mem_erase h)))))
    · rw [if_pos hlt]
      exact n3.set 0 _
  · have HC := Lib.hid hC
    clear hC
    go_wp2_with fail
    go_quiet (fail)
    go_wp2_with fail
    go_end0
    have F0 : Fr (fun _ => False) w (w.drewN nq) := (Fr.refl w).drewN nq
    unfold Ticked
    rw [if_neg (Int.not_lt.2 hlt), if_neg (Int.not_lt.2 hlt)]
    exact ⟨rfl, HC.out.fr F0 (fun _ _ h => h), Bn.fr F0 (fun h => h), Bc.fr F0 (fun h => h), Bt.fr F0 (fun h => h), F0.mono (fun _ _ h => h.elim)⟩

theorem erase_mid {pre rest : List Nat} {b : Nat} (h : (pre ++ b :: rest).Nodup) : (pre ++ b :: rest).erase b = pre ++ rest := by
  have hn : b ∉ pre := fun hp => by
    have := (List.nodup_append.1 h).2.2 b hp b (by simp)
    exact this rfl
  rw [List.erase_append_right _ hn]
  simp

set_option maxHeartbeats 2000000 in
theorem tick_away {w : World} {c : Nat} {K : Nat → Prop} {room : Int} {L : List Slot} (h : Away w c K room L) (now : Int) (hL : L.length ≤ 10000) :
    Calls Try.prog 22 #[pt c, .int .i64 now] w fun e w' => e = .returned (.int .i64 (tickS L now).1) ∧ Away w' c K room (tickS L now).2 ∧ Fr (fun k => ¬ K k) w w' := by
  obtain ⟨r, m, bs, D, hC, hk, rfl⟩ := h
  have hlt := hC.lt
  obtain ⟨z, hz⟩ : ∃ z, z = w.heap.size := ⟨_, rfl⟩
  obtain ⟨w0, hw0⟩ : ∃ w0, w0 = ((w.alloc (.cells #[pt c] 24)).alloc (.cells #[.int .i64 now] 3)).alloc (.cells #[.int .i64 0] 3) := ⟨_, rfl⟩
  have Bc : Blk w0 z 24 #[pt c] := by rw [hw0, hz]; exact ((Blk.new w _ _).alloc _).alloc _
  have Bn : Blk w0 (z + 1) 3 #[.int .i64 now] := by
    rw [hw0, hz]
    have := (Blk.new (w.alloc (.cells #[pt c] 24)) 3 #[.int .i64 now]).alloc (.cells #[.int .i64 0] 3)
    simpa using this
  have Bt : Blk w0 (z + 2) 3 #[.int .i64 0] := by
    rw [hw0, hz]
    have := Blk.new ((w.alloc (.cells #[pt c] 24)).alloc (.cells #[.int .i64 now] 3)) 3 #[.int .i64 0]
    simpa using this
  have F0 : Fr (fun _ => False) w w0 := by rw [hw0]; exact (((Fr.refl w).alloc _).alloc _).alloc _
  have C0 := hC.fr F0 (fun _ _ h => h)
  have key := each_any 37 #[pt (z + 1), pt z, pt (z + 2)] (calls_fn Try.func37 (by kernel_rfl) (by kernel_rfl)) c r m room D
    (fun pre rest w1 => CacheAt w1 c r m room (pre ++ rest) D ∧ (∀ b ∈ pre ++ rest, b ∈ bs) ∧ Blk w1 (z + 1) 3 #[.int .i64 now] ∧ Blk w1 z 24 #[pt c] ∧ (∃ cnt : Nat, Blk w1 (z + 2) 3 #[.int .i64 cnt] ∧ cnt + rest.length ≤ bs.length ∧ cnt + (tickS (rest.map D) now).1 = (tickS (bs.map D) now).1) ∧ pre.map D ++ (tickS (rest.map D) now).2 = (tickS (bs.map D) now).2 ∧ Fr (· ∈ c :: m :: r :: bs) w w1)
    (fun pre rest w1 h => h.1)
    (fun pre b rest w1 ⟨h1, h2, h3, h4, ⟨cnt, h5, h5', h6⟩, h7, h8⟩ => by
      have hbl : bs.length ≤ 10000 := by simpa using hL
      have hlt1 : ∀ k ∈ c :: m :: r :: (pre ++ b :: rest), k ∈ c :: m :: r :: bs := fun k hk => by
        simp only [List.mem_cons] at hk ⊢
        rcases hk with h | h | h | h
        · exact .inl h
        · exact .inr (.inl h)
        · exact .inr (.inr (.inl h))
        · exact .inr (.inr (.inr (h2 k h)))
      refine (tick1_any w1 c r m b (z + 1) z (z + 2) room now cnt (pre ++ b :: rest) D h1 (by simp) h3 h4 h5 ⟨by omega, by omega⟩ (fun k hk hm => ?_) ⟨by omega, by simp at h5'; omega⟩).mono ?_
      · have := hlt k (hlt1 k hm)
        omega
      rintro e w2 ⟨he, g1, g2, g3, g4, g5⟩
      have hnd := h1.ring
      obtain ⟨_, _, hR⟩ := hnd
      have hnd2 : (pre ++ b :: rest).Nodup := (List.nodup_cons.1 hR.nodup).2
      have g6 : Fr (· ∈ c :: m :: r :: bs) w w2 := h8.trans' g5 (fun i hi h => by
        rcases h with h | h
        · omega
        · exact hlt1 i h)
      refine ⟨he, ?_⟩
      by_cases hnow : (D b).to < now
      · rw [if_pos hnow] at g1 g4
        rw [erase_mid hnd2] at g1
        simp only [List.map_cons, tickS, List.filter_cons, hnow, decide_true, Bool.not_true, if_true, List.length_cons, Bool.false_eq_true, if_false] at h6 h7
        refine ⟨pre, g1, fun x hx => h2 x ?_, g2, g3, ⟨cnt + 1, by simpa using g4, by simp at h5'; omega, by simp only [tickS]; omega⟩, by simpa only [tickS] using h7, g6⟩
        simp only [List.mem_append, List.mem_cons] at hx ⊢
        rcases hx with h | h
        · exact .inl h
        · exact .inr (.inr h)
      · rw [if_neg hnow] at g1 g4
        simp only [List.map_cons, tickS, List.filter_cons, hnow, decide_false, Bool.not_false, if_true, Bool.false_eq_true, if_false] at h6 h7
        refine ⟨pre ++ [b], by simpa using g1, fun x hx => h2 x (by simpa using hx), g2, g3, ⟨cnt, g4, by simp at h5'; omega, by simpa only [tickS] using h6⟩, by simpa only [tickS, List.map_append, List.map_cons, List.map_nil, List.append_assoc, List.singleton_append, List.cons_append, List.nil_append] using h7, g6⟩)
    bs w0 ⟨by simpa using C0, by simp, Bn, Bc, ⟨0, Bt, by simp, by simp⟩, by simp, F0.mono (fun _ _ h => h.elim)⟩
  have HK := Lib.hid key
  have HZ := Lib.hid hz
  have HW := Lib.hid hw0
  have eb := Bc.cell 0
  simp at eb
  have eb' := eb
  rw [hw0] at eb'
  rw [hz] at eb'
  clear key C0 hlt hz hw0 Bn Bt F0 eb
  go_enter Try.func22, Try.ntmps22
  go_wp2_with fail
  have hkey := HK.out
  rw [HZ.out] at hkey
  rw [← HW.out]
  refine hkey.mono ?_
  rintro e w2 ⟨rfl, pre, h1, h2, h3, h4, ⟨cnt, h5, h5', h6⟩, h7, h8⟩
  have e5 : w2.cell? ⟨w.heap.size + 1 + 1, 0, none⟩ = some (.int .i64 cnt) := h5.cell 0
  have hp : tickS (([] : List Nat).map D) now = (0, []) := by simp [tickS]
  rw [hp] at h6 h7
  simp only [List.append_nil, Nat.add_zero] at h1 h2 h6 h7
  have HC1 := Lib.hid h1
  have H7 := Lib.hid h7
  have H6 := Lib.hid h6
  clear HK hkey eb' Bc h1 h3 h4 h5 h5' h6 h7
  go_wp2_with fail
  go_ret
  refine ⟨by rw [← H6.out]; rfl, ⟨r, m, pre, D, HC1.out, fun k hk1 => ?_, H7.out⟩, h8.mono (fun i _ hi => hk i hi)⟩
  refine hk k ?_
  simp only [List.mem_cons] at hk1 ⊢
  rcases hk1 with h | h | h | h
  · exact .inl h
  · exact .inr (.inl h)
  · exact .inr (.inr (.inl h))
  · exact .inr (.inr (.inr (h2 k h)))

set_option maxHeartbeats 1000000 in
theorem next1_any (w : World) (b bo be : Nat) (p : Int × Bool) (s : Slot) (hb : w.cell? ⟨b, 8, none⟩ = some (.int .i64 s.to))
    (Bo : Blk w bo 4 #[.bool p.2]) (Be : Blk w be 3 #[.int .i64 p.1]) (hd : bo ≠ be) :
    Calls Try.prog 36 #[pt b, pt bo, pt be] w fun e w' => e = .returned (.tuple #[]) ∧
      Blk w' bo 4 #[.bool (nextStep p s).2] ∧ Blk w' be 3 #[.int .i64 (nextStep p s).1] ∧ Fr (fun k => k = bo ∨ k = be) w w' := by
  obtain ⟨e, ok⟩ := p
  have e1 := Bo.cell 0
  have e2 := Be.cell 0
  have f1 := Bo.frozen 0
  have f2 := Be.frozen 0
  simp at e1 e2
  go_enter Try.func36, Try.ntmps36
  cases ok with
  | false =>
    go_wp2_with fail
    go_quiet (fail)
    have n1 : Blk (w.drewN nq) bo 4 #[.bool false] := Bo.fr ((Fr.refl w).drewN (S := fun _ => False) nq) (fun h => h)
    have n2 : Blk (w.drewN nq) be 3 #[.int .i64 e] := Be.fr ((Fr.refl w).drewN (S := fun _ => False) nq) (fun h => h)
    have hb1 : (w.drewN nq).cell? ⟨b, 8, none⟩ = some (.int .i64 s.to) := hb
    have G0 : Fr (fun k => k = bo ∨ k = be) w (w.drewN nq) := (Fr.refl w).drewN nq
    clear Bo Be hb e1 e2 f1 f2
    generalize w.drewN nq = w1 at *
    have e2 := n2.cell 0
    have f2 := n2.frozen 0
    have n3 := n1.set_other (a := ⟨be, 0, none⟩) hd (.int .i64 s.to)
    have e1 := n3.cell 0
    have f1 := n3.frozen 0
    simp at e1 e2
    go_wp2_with fail
    go_end0
    refine ⟨rfl, ?_, ?_, (G0.setCell (p := ⟨be, 0, none⟩) (fun _ => .inr rfl) _).setCell (p := ⟨bo, 0, none⟩) (fun _ => .inl rfl) _⟩
    · simp only [nextStep, true_or, if_true]
      exact n3.set 0 _
    · simp only [nextStep, true_or, if_true]
      exact (n2.set 0 _).set_other (Ne.symm hd) _
  | true =>
    by_cases hlt : s.to < e
    · go_wp2_with fail
      go_quiet (fail)
      have n1 : Blk (w.drewN nq) bo 4 #[.bool true] := Bo.fr ((Fr.refl w).drewN (S := fun _ => False) nq) (fun h => h)
      have n2 : Blk (w.drewN nq) be 3 #[.int .i64 e] := Be.fr ((Fr.refl w).drewN (S := fun _ => False) nq) (fun h => h)
      have hb1 : (w.drewN nq).cell? ⟨b, 8, none⟩ = some (.int .i64 s.to) := hb
      have G0 : Fr (fun k => k = bo ∨ k = be) w (w.drewN nq) := (Fr.refl w).drewN nq
      clear Bo Be hb e1 e2 f1 f2
      generalize w.drewN nq = w1 at *
      have e2 := n2.cell 0
      have f2 := n2.frozen 0
      have n3 := n1.set_other (a := ⟨be, 0, none⟩) hd (.int .i64 s.to)
      have e1 := n3.cell 0
      have f1 := n3.frozen 0
      simp at e1 e2
      go_wp2_with fail
      go_end0
      refine ⟨rfl, ?_, ?_, (G0.setCell (p := ⟨be, 0, none⟩) (fun _ => .inr rfl) _).setCell (p := ⟨bo, 0, none⟩) (fun _ => .inl rfl) _⟩
      · simp only [nextStep, hlt, or_true, if_true]
        exact n3.set 0 _
      · simp only [nextStep, hlt, or_true, if_true]
        exact (n2.set 0 _).set_other (Ne.symm hd) _
    · go_wp2_with fail
      go_quiet (fail)
      go_wp2_with fail
      go_end0
      have F0 : Fr (fun _ => False) w (w.drewN nq) := (Fr.refl w).drewN nq
      have hn : nextStep (e, true) s = (e, true) := by simp [nextStep]; omega
      rw [hn]
      exact ⟨rfl, Bo.fr F0 (fun h => h), Be.fr F0 (fun h => h), F0.mono (fun _ _ h => h.elim)⟩

set_option maxHeartbeats 2000000 in
theorem next_away {w : World} {c : Nat} {K : Nat → Prop} {room : Int} {L : List Slot} (h : Away w c K room L) :
    Calls Try.prog 19 #[pt c] w fun e w' => e = .returned (.tuple #[.int .i64 (nextS L).1, .bool (nextS L).2]) ∧ Away w' c K room L ∧ Fr (fun _ => False) w w' := by
  obtain ⟨r, m, bs, D, hC, hk, rfl⟩ := h
  have hlt := hC.lt
  obtain ⟨z, hz⟩ : ∃ z, z = w.heap.size := ⟨_, rfl⟩
  obtain ⟨w0, hw0⟩ : ∃ w0, w0 = (w.alloc (.cells #[.int .i64 0] 3)).alloc (.cells #[.bool false] 4) := ⟨_, rfl⟩
  have Be : Blk w0 z 3 #[.int .i64 0] := by rw [hw0, hz]; exact (Blk.new w _ _).alloc _
  have Bo : Blk w0 (z + 1) 4 #[.bool false] := by
    rw [hw0, hz]
    have := Blk.new (w.alloc (.cells #[.int .i64 0] 3)) 4 #[.bool false]
    simpa using this
  have F0 : Fr (fun _ => False) w w0 := by rw [hw0]; exact ((Fr.refl w).alloc _).alloc _
  have C0 := hC.fr F0 (fun _ _ h => h)
  have key := each_any 36 #[pt (z + 1), pt z] (calls_fn Try.func36 (by kernel_rfl) (by kernel_rfl)) c r m room D
    (fun pre rest w1 => CacheAt w1 c r m room (pre ++ rest) D ∧ pre ++ rest = bs ∧ Blk w1 (z + 1) 4 #[.bool (nextS (pre.map D)).2] ∧ Blk w1 z 3 #[.int .i64 (nextS (pre.map D)).1] ∧ Fr (fun _ => False) w w1)
    (fun pre rest w1 h => h.1)
    (fun pre b rest w1 ⟨h1, h2, h3, h4, h5⟩ => by
      obtain ⟨A, H, R⟩ := h1.ring
      have kb := (R.blk b (by simp)).cell 8
      simp [slotCells] at kb
      refine (next1_any w1 b (z + 1) z (nextS (pre.map D)) (D b) kb h3 h4 (by omega)).mono ?_
      rintro e w2 ⟨he, g1, g2, g3⟩
      have hs : nextS ((pre ++ [b]).map D) = nextStep (nextS (pre.map D)) (D b) := by simp [nextS]
      refine ⟨he, pre ++ [b], ?_, by simpa using h2, by rw [hs]; exact g1, by rw [hs]; exact g2, h5.trans' g3 (fun i hi h => by omega)⟩
      have := h1.fr g3 (fun k hk h => by
        have := hlt k (by simp only [List.mem_cons] at hk ⊢; rw [h2] at hk; exact hk)
        omega)
      simpa using this)
    bs w0 ⟨by simpa using C0, by simp, Bo, Be, F0⟩
  have HK := Lib.hid key
  have HZ := Lib.hid hz
  have HW := Lib.hid hw0
  clear key C0 hlt hz hw0 Bo Be F0
  go_enter Try.func19, Try.ntmps19
  go_wp2_with fail
  have hkey := HK.out
  rw [HZ.out] at hkey
  rw [HW.out] at hkey
  refine hkey.mono ?_
  rintro e w2 ⟨rfl, pre, h1, h2, h3, h4, h5⟩
  have e3 := h3.cell 0
  have e4 := h4.cell 0
  simp at e3 e4 h1 h2
  subst h2
  have HC1 := Lib.hid h1
  clear HK hkey h3 h4 h1 HW
  go_wp2_with fail
  go_quiet (fail)
  go_wp2_with fail
  have F1 : Fr (fun _ => False) w2 (w2.drewN nq) := (Fr.refl w2).drewN nq
  exact bodyPost_ret (v := .tuple #[.int .i64 (nextS (pre.map D)).1, .bool (nextS (pre.map D)).2]) (by simp [results, Try.results19, go_sem]) rfl ⟨rfl, ⟨r, m, pre, D, HC1.out.fr F1 (fun _ _ h => h), hk, rfl⟩, h5.trans F1⟩

set_option maxHeartbeats 1000000 in
theorem clear_away {w : World} {c : Nat} {K : Nat → Prop} {room : Int} {L : List Slot} (h : Away w c K room L) (hK : ∀ k, K k → k < w.heap.size) :
    Calls Try.prog 21 #[pt c] w fun e w' => e = .returned (.tuple #[]) ∧ Away w' c K room [] ∧ Fr (fun k => ¬ K k) w w' := by
  obtain ⟨r, m, bs, D, hC, hk, rfl⟩ := h
  obtain ⟨z, hz⟩ : ∃ z, z = w.heap.size := ⟨_, rfl⟩
  have hC' := Lib.hid hC
  have hlt := Lib.hid hC.lt
  have hk' := Lib.hid hk
  have F0 : Fr (fun _ => False) w (w.alloc (.cells (zslot w.heap.size w.heap.size) 72)) := (Fr.refl w).alloc _
  have Bz : Blk (w.alloc (.cells (zslot w.heap.size w.heap.size) 72)) z 72 (zslot w.heap.size w.heap.size) := by rw [hz]; exact Blk.new w _ _
  have cc := hC.cc.fr F0 (fun h => h)
  have mm := hC.map.fr F0 (fun h => h)
  have hcm := hC.map.ne_blk hC.cc
  clear hC hk
  go_enter Try.func21, Try.ntmps21
  go_wp2_with fail
  refine (ring_any w).mono ?_
  rintro e w1 ⟨rfl, hw1⟩
  rw [← hw1] at F0 Bz cc mm
  rw [← hz] at Bz ⊢
  have HZ := Lib.hid hz
  clear hw1 hz
  have e1 := cc.cell 1
  have f1 := cc.frozen 1
  simp at e1
  have c2 := cc.set 1 (pt z)
  have m2 := mm.fr (S := fun k => k = c) (Fr.setCell (S := fun k => k = c) (p := ⟨c, 1, none⟩) (Fr.refl w1) (fun _ => rfl) (pt z)) (fun e => hcm e.symm)
  have e2 := c2.cell 2
  simp at e2
  obtain ⟨o, hw, m3⟩ := m2.wipe (P := Try.prog) (t := 63) (T := 0) Try.underlying63
  go_wp2_with fail
  go_end0
  have hzc : z ≠ c := fun e => by have := hlt.out c (by simp); have := HZ.out; omega
  have hzm : z ≠ m := fun e => by have := hlt.out m (by simp); have := HZ.out; omega
  have c3 := c2.setObj hcm o
  have b3 := (Bz.set_other (a := ⟨c, 1, none⟩) hzc (pt z)).setObj hzm o
  have f3 : Fr (fun k => ¬ K k) w { (w1.setCell ⟨c, 1, none⟩ (pt z)) with heap := (w1.setCell ⟨c, 1, none⟩ (pt z)).heap.setIfInBounds m o } :=
    ((F0.mono (fun _ _ h => h.elim)).setCell (p := ⟨c, 1, none⟩) (fun _ => hk'.out c (by simp)) (pt z)).setObj (fun _ => hk'.out m (by simp)) o
  refine ⟨rfl, ⟨z, m, [], fun _ => ⟨⟨#[]⟩, 0, 0, 0, 0, 0, 0⟩, ⟨?_, ⟨fun _ => z, fun _ => z, ?_, ?_, ?_⟩, m3, ?_⟩, ?_, rfl⟩, f3⟩
  · exact c3
  · intro b hb
    simp at hb
    subst hb
    exact b3
  · simp [Lk]
  · simp
  · simpa using hzc.symm
  · intro k hk1
    simp only [List.mem_cons, List.not_mem_nil, or_false] at hk1
    rcases hk1 with h | h | h
    · exact h ▸ hk'.out c (by simp)
    · exact h ▸ hk'.out m (by simp)
    · intro hK1
      have := hK k hK1
      have := HZ.out
      omega
end Go.Proofs.Ytjcjebmlibllbaa
