/-
  The walk of the cache's Put.
-/
import Derived.Test.YtjcjebmlibllbaaCaWalks2
import Derived.Test.YtjcjebmlibllbaaCaSpec
namespace Go.Proofs.Ytjcjebmlibllbaa
open Go Go.RowKit Go.Q

theorem zero_ptr (w : World) : (zeroValue 61).run Try.prog w = .ok (.pointer none) w := by kernel_rfl

theorem keys_of {w : World} {m : Nat} {bs : List Nat} {D : Nat → Slot} (h : MapIs w m (bs.map fun b => ((D b).key, pt b))) : (bs.map fun b => (D b).key).Nodup := by
  obtain ⟨_, _, _, _, hn⟩ := h
  simpa [Function.comp_def] using hn

set_option maxHeartbeats 2000000 in
theorem put_any (w : World) (c r m : Nat) (room : Int) (bs : List Nat) (D : Nat → Slot) (hC : CacheAt w c r m room bs D) (s : Slot) :
    Calls Try.prog 9 #[pt c, .string s.key, .agg #[.int .i64 s.k, .int .i64 s.date, .int .i64 s.reason, .int .i64 s.cause], .agg #[.int .i64 s.fr, .int .i64 s.to]] w fun e w' =>
      ∃ bs' D', e = .returned (.int .i64 (putS room (bs.map D) s).1) ∧ CacheAt w' c r m room bs' D' ∧ bs'.map D' = (putS room (bs.map D) s).2 ∧ Fr (· ∈ c :: m :: r :: bs) w w' ∧ ∀ b ∈ bs', b ∈ bs ∨ w.heap.size ≤ b := by
  obtain ⟨W, hW⟩ : ∃ W, W = (w.alloc (.cells #[.int .i64 s.k, .int .i64 s.date, .int .i64 s.reason, .int .i64 s.cause] 37)).alloc (.cells #[.int .i64 s.fr, .int .i64 s.to] 39) := ⟨_, rfl⟩
  have F : Fr (fun _ => False) w W := by rw [hW]; exact ((Fr.refl w).alloc _).alloc _
  have C := hC.fr F (fun _ _ h => h)
  have hkn := keys_of C.map
  have B1 : Blk W w.heap.size 37 #[.int .i64 s.k, .int .i64 s.date, .int .i64 s.reason, .int .i64 s.cause] := by rw [hW]; exact (Blk.new w _ _).alloc _
  have B2 : Blk W (w.heap.size + 1) 39 #[.int .i64 s.fr, .int .i64 s.to] := by rw [hW]; have := Blk.new (w.alloc (.cells #[.int .i64 s.k, .int .i64 s.date, .int .i64 s.reason, .int .i64 s.cause] 37)) 39 #[.int .i64 s.fr, .int .i64 s.to]; simpa using this
  have hlt := hC.lt
  have ec := C.cc.cell 2
  simp at ec
  rcases Classical.em (∃ b ∈ bs, (D b).key = s.key) with ⟨b, hb, hbk⟩ | hno
  case' inl =>
    have hl := C.map.found (P := Try.prog) (K := 9) (t := 63) Try.underlying9 Try.underlying63 (k := s.key) (v := pt b) (List.mem_map.2 ⟨b, hb, by simp [hbk]⟩) true
    simp only [if_true] at hl
    rw [hW] at hl ec
    go_enter Try.func9, Try.ntmps9
    go_wp2_with fail
    refine (gone_any _ c r m b room bs D (hW ▸ C) hb).mono ?_
    rintro e w1 ⟨rfl, C1, F1⟩
    rw [← hW] at F1
    have hE : (bs.erase b).map D = del s.key (bs.map D) := by rw [← hbk]; exact erase_map hkn hb
    have hsub : ∀ x ∈ bs.erase b, x ∈ bs := fun x hx => List.mem_of_mem_erase hx
    generalize bs.erase b = bs1 at *
    have B1' : Blk w1 w.heap.size _ _ := B1.fr F1 (fun h => Nat.lt_irrefl _ (hlt _ h))
    have B2' : Blk w1 (w.heap.size + 1) _ _ := B2.fr F1 (fun h => by have := hlt _ h; omega)
    have g0 := B2'.cell 0
    have g1 := B2'.cell 1
    simp at g0 g1
    clear hl ec
    go_wp2_with fail
  case' inr =>
    have hl := C.map.missing (P := Try.prog) (K := 9) (E := 61) (t := 63) Try.underlying9 Try.underlying63 zero_ptr (k := s.key) (by
      intro hm
      obtain ⟨p, hp, hpk⟩ := List.mem_map.1 hm
      obtain ⟨b, hb, rfl⟩ := List.mem_map.1 hp
      exact hno ⟨b, hb, hpk⟩) true
    simp only [if_true] at hl
    rw [hW] at hl ec
    go_enter Try.func9, Try.ntmps9
    go_wp2_with fail
    obtain ⟨w1, hw1⟩ : ∃ w1, w1 = W := ⟨_, rfl⟩
    have C1 : CacheAt w1 c r m room bs D := hw1 ▸ C
    have F1 : Fr (· ∈ c :: m :: r :: bs) W w1 := by rw [hw1]; exact Fr.refl _
    obtain ⟨bs1, hbs1⟩ : ∃ bs1, bs1 = bs := ⟨_, rfl⟩
    have hE : bs1.map D = del s.key (bs.map D) := by rw [hbs1]; exact (del_not (fun x hx e => by obtain ⟨b, hb, rfl⟩ := List.mem_map.1 hx; exact hno ⟨b, hb, e⟩)).symm
    have hsub : ∀ x ∈ bs1, x ∈ bs := fun x hx => hbs1 ▸ hx
    rw [← hbs1] at C1
    have B1' : Blk w1 w.heap.size _ _ := hw1 ▸ B1
    have B2' : Blk w1 (w.heap.size + 1) _ _ := hw1 ▸ B2
    rw [← hW, ← hw1]
    clear hl ec hbs1 hno hw1
  all_goals
    have hnk : s.key ∉ bs1.map (fun b => (D b).key) := fun hm => by
      obtain ⟨b, hb, e⟩ := List.mem_map.1 hm
      exact del_not_mem s.key (bs.map D) (D b) (by rw [← hE]; exact List.mem_map.2 ⟨b, hb, rfl⟩) e
    have HE := Lib.hid hE
    clear hE
    have F1' : Fr (· ∈ c :: m :: r :: bs) w w1 := (F.mono (fun _ _ h => h.elim)).trans F1
    by_cases he : s.to < s.fr
    · go_wp2_with (go_at_call 25; refine (empty_any _ _ _).mono ?_; rintro e w' ⟨rfl, rfl⟩)
      go_ret
      have hp : putS room (bs.map D) s = (16, bs1.map D) := by rw [HE.out]; simp [putS, he]
      rw [hp]
      exact ⟨bs1, D, rfl, C1.fr (S := fun _ => False) ((Fr.refl w1).alloc _) (fun _ _ h => h), rfl, F1'.alloc _, fun b hb => .inl (hsub b hb)⟩
    · have he' : decide (s.to < s.fr) = false := by simpa using he
      obtain ⟨W2, hW2⟩ : ∃ W2, W2 = w1.alloc (.cells #[.int .i64 s.fr, .int .i64 s.to] 39) := ⟨_, rfl⟩
      have F2 : Fr (· ∈ c :: m :: r :: bs) w W2 := by rw [hW2]; exact F1'.alloc _
      have C2 : CacheAt W2 c r m room bs1 D := C1.fr (S := fun _ => False) (by rw [hW2]; exact (Fr.refl w1).alloc _) (fun _ _ h => h)
      have B1'' := B1'.alloc (.cells #[.int .i64 s.fr, .int .i64 s.to] 39)
      have B2'' := B2'.alloc (.cells #[.int .i64 s.fr, .int .i64 s.to] 39)
      rw [← hW2] at B1'' B2''
      have HW2 := Lib.hid hW2
      clear hW2
      have q0 := C2.cc.cell 0
      have q1 := C2.cc.cell 1
      have q2 := C2.cc.cell 2
      simp at q0 q1 q2
      by_cases h0 : room = 0
      · have hr0 : (room == 0) = true := by simpa using h0
        go_wp2_with (go_at_call 25; refine (empty_any _ _ _).mono ?_; rintro e w' ⟨rfl, hw'⟩; obtain rfl : W2 = w' := HW2.out.trans hw'.symm; clear hw')
        go_ret
        have hp : putS room (bs.map D) s = (2, bs1.map D) := by rw [HE.out]; simp [putS, he, h0]
        rw [hp]
        exact ⟨bs1, D, rfl, C2, rfl, F2, fun b hb => .inl (hsub b hb)⟩
      · have hr0 : (room == 0) = false := by simpa using h0
        have hcount : ∀ n T, (Builtin.len_ #[63] T #[.map (some m)]).run Try.prog (W2.drewN n) = .ok (.int .i64 bs1.length) (W2.drewN n) := fun n T => by
          have h := MapIs.count (P := Try.prog) (w := W2.drewN n) (K := 9) (E := 61) (t := 63) (T := T) C2.map Try.underlying63
          simpa using h
        have u0 := B1''.cell 0
        have u1 := B1''.cell 1
        have u2 := B1''.cell 2
        have u3 := B1''.cell 3
        have v0 := B2''.cell 0
        have v1 := B2''.cell 1
        simp at u0 u1 u2 u3 v0 v1
        rcases Classical.em ((bs1.length : Int) = room) with hfull | hfull
        case' inl =>
          have hf : ((bs1.length : Int) == room) = true := by simpa using hfull
          have hroom : 0 < bs1.length := by
            rcases Nat.eq_zero_or_pos bs1.length with e | e
            · rw [e] at hfull; exact absurd hfull.symm h0
            · exact e
          have HF := Lib.hid hfull
          clear hfull
          obtain ⟨b0, bs2, hbs⟩ : ∃ b0 bs2, bs1 = b0 :: bs2 := by
            cases bs1 with
            | nil => simp at hroom
            | cons a t => exact ⟨a, t, rfl⟩
          obtain ⟨A, H, R⟩ := C2.ring
          have kr := R.blk r (by simp)
          have hH : H r = b0 := by have := R.lk; rw [hbs] at this; exact this.1
          have kr1 := kr.cell 1
          simp [slotCells, hH] at kr1
          have HB := Lib.hid hbs
          clear hbs hH hroom
          have hp : putS room (bs.map D) s = (0, bs2.map D ++ [s]) := by
            have hE := HE.out
            have hl : ((del s.key (bs.map D)).length : Int) = room := by rw [← hE]; simpa using HF.out
            simp only [putS, he, h0, hl, if_true, if_false]
            rw [← hE, HB.out]; rfl
          have HP := Lib.hid hp
          clear hp
          go_wp2_with (go_at_call 25; refine (empty_any _ _ _).mono ?_; rintro e w' ⟨rfl, hw'⟩; obtain rfl : W2 = w' := HW2.out.trans hw'.symm; clear hw')
          go_quiet (fail)
          go_wp2_with fail
          refine (gone_any (W2.drewN nq) c r m b0 room bs1 D (C2.fr (S := fun _ => False) ((Fr.refl _).drewN nq) (fun _ _ h => h)) (by rw [HB.out]; simp)).mono ?_
          rintro e W4 ⟨rfl, C4, F4⟩
          have C4' : CacheAt W4 c r m room bs2 D := by rw [HB.out, List.erase_cons_head] at C4; exact C4
          have hsub2 : ∀ x ∈ bs2, x ∈ bs1 := fun x hx => by rw [HB.out]; exact List.mem_cons_of_mem _ hx
          have hsub3 : ∀ x ∈ c :: m :: r :: bs1, x ∈ c :: m :: r :: bs := fun x hx => by
            simp only [List.mem_cons] at hx ⊢
            rcases hx with h | h | h | h
            · exact .inl h
            · exact .inr (.inl h)
            · exact .inr (.inr (.inl h))
            · exact .inr (.inr (.inr (hsub _ h)))
          have F4' : Fr (· ∈ c :: m :: r :: bs) w W4 := (F2.drewN nq).trans (F4.mono (fun i _ h => hsub3 i h))
          have D1 : Blk W4 w.heap.size _ _ := Blk.fr (w := W2.drewN nq) B1'' F4 (fun h => Nat.lt_irrefl _ (hlt _ (hsub3 _ h)))
          have D2 : Blk W4 (w.heap.size + 1) _ _ := Blk.fr (w := W2.drewN nq) B2'' F4 (fun h => by have := hlt _ (hsub3 _ h); omega)
          clear C4 F4 kr1 kr R
        case' inr =>
          have hf : ((bs1.length : Int) == room) = false := by simpa using hfull
          have HF := Lib.hid hfull
          clear hfull
          obtain ⟨bs2, hbs2⟩ : ∃ bs2, bs2 = bs1 := ⟨_, rfl⟩
          have hp : putS room (bs.map D) s = (0, bs2.map D ++ [s]) := by
            have hE := HE.out
            have hl : ¬ ((del s.key (bs.map D)).length : Int) = room := by rw [← hE]; simpa using HF.out
            simp only [putS, he, h0, hl, if_false]
            rw [← hE, hbs2]
          have HP := Lib.hid hp
          have HB := Lib.hid hbs2
          clear hp hbs2
          go_wp2_with (go_at_call 25; refine (empty_any _ _ _).mono ?_; rintro e w' ⟨rfl, hw'⟩; obtain rfl : W2 = w' := HW2.out.trans hw'.symm; clear hw')
          go_quiet (fail)
          obtain ⟨W4, hW4⟩ : ∃ W4, W4 = W2.drewN nq := ⟨_, rfl⟩
          rw [← hW4]
          have C4' : CacheAt W4 c r m room bs1 D := by rw [hW4]; exact C2.fr (S := fun _ => False) ((Fr.refl _).drewN nq) (fun _ _ h => h)
          rw [← HB.out] at C4'
          have hsub2 : ∀ x ∈ bs2, x ∈ bs1 := fun x hx => HB.out ▸ hx
          have F4' : Fr (· ∈ c :: m :: r :: bs) w W4 := by rw [hW4]; exact F2.drewN nq
          have D1 := Blk.fr (w' := W4) (S := fun _ => False) B1'' (by rw [hW4]; exact (Fr.refl _).drewN nq) (fun h => h)
          have D2 := Blk.fr (w' := W4) (S := fun _ => False) B2'' (by rw [hW4]; exact (Fr.refl _).drewN nq) (fun h => h)
          clear hW4
        all_goals
          clear hf hr0 hcount u0 u1 u2 u3 v0 v1 q0 q1 q2
          have u0 := D1.cell 0
          have u1 := D1.cell 1
          have u2 := D1.cell 2
          have u3 := D1.cell 3
          have v0 := D2.cell 0
          have v1 := D2.cell 1
          simp at u0 u1 u2 u3 v0 v1
          have q1 := C4'.cc.cell 1
          have q2 := C4'.cc.cell 2
          simp at q1 q2
          have hal : ∀ (w : World) (o : Obj) (b i : Nat), b < w.heap.size → (w.alloc o).cell? ⟨b, i, none⟩ = w.cell? ⟨b, i, none⟩ := fun w o b i h => World.cell?_alloc_lt w o ⟨b, i, none⟩ h
          have hclt : c < W4.heap.size := C4'.lt _ (by simp)
          have hnk2 : s.key ∉ (bs2.map fun b => ((D b).key, pt b)).map (·.1) := fun hm => by
            obtain ⟨x, hx, e⟩ := List.mem_map.1 hm
            obtain ⟨b, hb, rfl⟩ := List.mem_map.1 hx
            exact hnk (List.mem_map.2 ⟨b, hsub2 b hb, e⟩)
          have FA : Fr (fun _ => False) W4 (W4.alloc (.cells (slotCells' (.pointer none) (.pointer none) s) 72)) := (Fr.refl W4).alloc _
          have C5 := C4'.fr FA (fun _ _ h => h)
          have N5 := Blk.new W4 72 (slotCells' (.pointer none) (.pointer none) s)
          have hn5 : W4.heap.size ∉ r :: bs2 := fun hm => Nat.lt_irrefl _ (C4'.lt _ (List.mem_cons_of_mem _ (List.mem_cons_of_mem _ hm)))
          have hcn : c ≠ W4.heap.size := Nat.ne_of_lt hclt
          obtain ⟨K1, ⟨A5, H5, R5⟩, K3, K4⟩ := C5
          obtain ⟨mA, _⟩ := R5.inn hn5 N5
          have kr := R5.blk r (by simp)
          have kA := R5.blk _ mA
          go_wp2_with fail
          refine (in_any _ W4.heap.size r (A5 r) _ _ _ (kr.cell 0) (N5.cell 0) (N5.cell 1) (kA.cell 1) (N5.frozen 0) (N5.frozen 1) (kA.frozen 1) (kr.frozen 0) (fun e => hn5 (e ▸ List.mem_cons_self)) (fun e => absurd mA (by rw [← e]; exact hn5))).mono ?_
          rintro e w6 ⟨rfl, hw6⟩
          obtain ⟨R6, F6, c6, n6, m6, mc6, mk6⟩ := in_mid K1 R5 K3 K4 hn5 N5 hcn hw6
          clear hw6
          have p2 := c6.cell 2
          simp at p2
          obtain ⟨o, hput, M7⟩ := MapIs.put_new (P := Try.prog) (K := 9) (E := 61) (t := 63) m6 Try.underlying9 Try.underlying63 hnk2 (pt W4.heap.size)
          go_wp2_with fail
          go_ret
          have hlt4 : ∀ x ∈ bs2, x < W4.heap.size := fun x hx => C4'.lt _ (by simp [hx])
          have hDx : ∀ x ∈ bs2, (if x = W4.heap.size then s else D x) = D x := fun x hx => if_neg (Nat.ne_of_lt (hlt4 x hx))
          have hws : w.heap.size ≤ W4.heap.size := F4'.size
          have hc6 : c < w.heap.size := hlt _ (by simp)
          have FA6 : Fr (· ∈ c :: m :: r :: bs) w w6 := (F4'.trans (FA.mono (fun _ _ h => h.elim))).trans' F6 (fun i hi h => by
            simp only [List.mem_cons] at h ⊢
            rcases h with h | h | h
            · omega
            · exact .inr (.inr (.inl h))
            · exact .inr (.inr (.inr (hsub _ (hsub2 _ h)))))
          refine ⟨bs2 ++ [W4.heap.size], fun b => if b = W4.heap.size then s else D b, by rw [HP.out]; rfl, ⟨c6.setObj mc6 _, ⟨_, _, R6.fr (S := fun k => k = m) (Fr.setObj (S := fun k => k = m) (m := m) (Fr.refl w6) (fun _ => rfl) _) ?_⟩, ?_, ?_⟩, ?_, ?_, ?_⟩
          · intro k hk
            refine mk6 k ?_
            simp only [List.mem_cons, List.mem_append, List.not_mem_nil, or_false] at hk ⊢
            rcases hk with h | h | h <;> simp [h]
          · have e1 : (bs2 ++ [W4.heap.size]).map (fun b => ((if b = W4.heap.size then s else D b).key, pt b)) = bs2.map (fun b => ((D b).key, pt b)) ++ [(s.key, pt W4.heap.size)] := by
              rw [List.map_append]
              congr 1
              · exact List.map_congr_left (fun x hx => by rw [hDx x hx])
              · simp
            rw [e1]; exact M7
          · intro hm
            simp only [List.mem_cons, List.mem_append, List.not_mem_nil, or_false] at hm
            rcases hm with h | h | h
            · exact K4 (by simp [h])
            · exact K4 (by simp [h])
            · exact hcn h
          · rw [HP.out, List.map_append]
            congr 1
            · exact List.map_congr_left (fun x hx => hDx x hx)
            · simp
          · exact Fr.setObj (S := (· ∈ c :: m :: r :: bs)) FA6 (fun _ => by simp) _
          · intro b hb
            simp only [List.mem_append, List.mem_cons, List.not_mem_nil, or_false] at hb
            rcases hb with h | h
            · exact .inl (hsub _ (hsub2 _ h))
            · subst h; exact .inr hws
end Go.Proofs.Ytjcjebmlibllbaa
