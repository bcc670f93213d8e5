/-
  The walk of do: a call on a cache and on the reference's.
-/
import Derived.Test.YtjcjebmlibllbaaRefPair
namespace Go.Q
open Go
theorem putS_len (room : Int) (L : List Slot) (s : Slot) (hr : 0 ≤ room) (hL : (L.length : Int) ≤ room) : ((putS room L s).2.length : Int) ≤ room := by
  rcases put_get room L s hr hL with h | h
  · exact h.2.2.2.2
  · exact h.2.2.2
theorem getS_len (L : List Slot) (k : ByteArray) (now : Int) : (getS L k now).2.length ≤ L.length := by
  unfold getS
  split
  · exact Nat.le_refl _
  · rename_i s hl
    have hmem := List.mem_of_find?_eq_some hl
    have hkey : s.key = k := by have := List.find?_some hl; simpa using this
    have hlen : (del k L).length < L.length := by
      unfold del
      refine Nat.lt_of_le_of_ne (List.length_filter_le _ _) (fun e => ?_)
      have := List.length_filter_eq_length_iff.1 e s hmem
      simp [hkey] at this
    split
    · simp only [List.length_append, List.length_cons, List.length_nil]; omega
    · exact Nat.le_of_lt hlen
theorem dropS_len : ∀ (ks : List ByteArray) (L : List Slot), (dropS L ks).2.length ≤ L.length
  | [], L => Nat.le_refl _
  | k :: ks, L => by
    simp only [dropS]
    split
    · exact Nat.le_trans (dropS_len ks _) (del_len k L)
    · exact dropS_len ks L
theorem told_agg (o : Option Slot) : ∃ (x y z u : Int) (t : Bool), Go.Proofs.Ytjcjebmlibllbaa.told o = .tuple #[.agg #[.int .i64 x, .int .i64 y, .int .i64 z, .int .i64 u], .bool t] := by
  cases o with
  | none => exact ⟨_, _, _, _, _, rfl⟩
  | some s => exact ⟨_, _, _, _, _, rfl⟩
end Go.Q
namespace Go.Proofs.Ytjcjebmlibllbaa
open Go Go.RowKit Go.Q

set_option maxRecDepth 100000 in
set_option maxHeartbeats 4000000 in
theorem do_any {w : World} {c q : Nat} {K : Nat → Prop} {room : Int} {L : List Slot} (a : Act) (ks : List ByteArray) (h : Pair w c q K room L L) (hL : (L.length : Int) ≤ room) (h0 : 0 ≤ room) (h1 : room ≤ 10000)
    (hks : Strs w (.slice a.ka a.kl a.kc) ks) (hkb : 0 < a.kl → ∀ k, (Value.slice a.ka a.kl a.kc).ownBlock = some k → K k) (hsz : a.s.key.size ≤ maxLen) :
    Calls Try.prog 17 #[pt c, pt q, .agg #[.int .i64 a.kind, .string a.s.key, .int .i64 a.s.k, .int .i64 a.s.date, .int .i64 a.s.reason, .int .i64 a.s.cause, .int .i64 a.s.fr, .int .i64 a.s.to, .int .i64 a.now, .slice a.ka a.kl a.kc]] w fun e w' =>
      e = .returned (.bool true) ∧ (∃ L', Pair w' c q K room L' L' ∧ (L'.length : Int) ≤ room) ∧ Fr (fun k => ¬ K k) w w' := by
  obtain ⟨n, hn⟩ : ∃ n, n = w.heap.size := ⟨_, rfl⟩
  have B := Blk.new w 34 (#[.int .i64 a.kind, .string a.s.key, .int .i64 a.s.k, .int .i64 a.s.date, .int .i64 a.s.reason, .int .i64 a.s.cause, .int .i64 a.s.fr, .int .i64 a.s.to, .int .i64 a.now, .slice a.ka a.kl a.kc] : Array Value)
  obtain ⟨w1, hw1⟩ : ∃ w1, w1 = w.alloc (.cells (#[.int .i64 a.kind, .string a.s.key, .int .i64 a.s.k, .int .i64 a.s.date, .int .i64 a.s.reason, .int .i64 a.s.cause, .int .i64 a.s.fr, .int .i64 a.s.to, .int .i64 a.now, .slice a.ka a.kl a.kc] : Array Value) 34) := ⟨_, rfl⟩
  have F : Fr (fun _ => False) w w1 := by rw [hw1]; exact (Fr.refl w).alloc _
  rw [← hw1, ← hn] at B
  have S := B.cell
  have Z := B.frozen
  have HW := Lib.hid hw1
  have HN := Lib.hid hn
  have HKS := Lib.hid hks
  have HKB := Lib.hid hkb
  clear hw1 hn hks hkb
  unfold maxLen at hsz
  go_enter Try.func17, Try.ntmps17
  go_upto_region 1 with fail
  rw [← HW.out, ← HN.out]
  go_upto_region 2 with fail
  obtain ⟨s, hs⟩ : ∃ s : Slot, s = ⟨a.s.key.extract 0 (if (20 : Int) < (a.s.key.size : Int) then (20 : Int) else (a.s.key.size : Int)).toNat, a.s.k, a.s.date, a.s.reason, a.s.cause, a.s.fr, a.s.to⟩ := ⟨_, rfl⟩
  have es : a.s.key.extract 0 (if (20 : Int) < (a.s.key.size : Int) then (20 : Int) else (a.s.key.size : Int)).toNat = s.key := by rw [hs]
  have B2 := B.set 1 (.string s.key)
  simp only [List.setIfInBounds_toArray, List.set_cons_succ, List.set_cons_zero] at B2
  have e2 : a.s.k = s.k ∧ a.s.date = s.date ∧ a.s.reason = s.reason ∧ a.s.cause = s.cause ∧ a.s.fr = s.fr ∧ a.s.to = s.to := by rw [hs]; exact ⟨rfl, rfl, rfl, rfl, rfl, rfl⟩
  rw [e2.1, e2.2.1, e2.2.2.1, e2.2.2.2.1, e2.2.2.2.2.1, e2.2.2.2.2.2] at B2
  rw [es]
  generalize (if (20 : Int) < (a.s.key.size : Int) then (20 : Int) else (a.s.key.size : Int)) = mn
  have hnw : w.heap.size ≤ n := Nat.le_of_eq HN.out.symm
  have F2 : Fr (fun k => k = n) w (w1.setCell ⟨n, 1, none⟩ (.string s.key)) := Fr.setCell (S := fun k => k = n) (p := ⟨n, 1, none⟩) (F.mono (fun _ _ h => h.elim)) (fun _ => rfl) _
  have P2 := h.step (K' := fun k => K k ∨ k = n) F2 (fun k hk e => absurd hk (by omega)) (fun k h => h.imp id (fun e => by omega)) (fun k hk => by
    rcases hk with hk | hk
    · exact Nat.lt_of_lt_of_le (h.1 k hk) F2.size
    · rw [hk]; exact B2.lt)
  have G2 : Fr (fun k => ¬ K k) w (w1.setCell ⟨n, 1, none⟩ (.string s.key)) := F2.mono (fun i hi e => absurd hi (by omega))
  clear hs es e2 B S Z HW F F2 HN hsz
  generalize (w1.setCell ⟨n, 1, none⟩ (.string s.key)) = w2 at *
  have hLl : L.length ≤ 10000 := by omega
  have hnk := h.nk
  have S := B2.cell
  have hKn : ∀ k, K k → K k ∨ k = n := fun _ h => .inl h
  have HPL := Lib.hid (putS_len room L s h0 hL)
  have HL := Lib.hid hL
  clear h hL
  go_upto_region 3 with fail
  generalize (IntKind.u64.wrap a.kind).tmod 5 = r at *
  rcases Classical.em (r = 0) with hr | hr
  case' inl =>
    subst hr
    go_upto_region 4 with fail
    replace P2 := P2.same (Fr.refl w2).drew
    replace B2 := B2.drew
    replace G2 := G2.drew
    go_region_held3 (fun w' => ∀ i, w'.cell? ⟨n, i, none⟩ = (#[.int .i64 a.kind, .string s.key, .int .i64 s.k, .int .i64 s.date, .int .i64 s.reason, .int .i64 s.cause, .int .i64 s.fr, .int .i64 s.to, .int .i64 a.now, .slice a.ka a.kl a.kc] : Array Value)[i]?) (exact B2.cell) (first
      | (go_at_call 10; refine (status_fr _ _ _ _ _).mono ?_; rintro e w' ⟨rfl, F⟩; replace B2 := B2.fr F (fun h => h); replace G2 := G2.trans (F.mono (fun _ _ h => h.elim)); replace P2 := P2.same F; have S := B2.cell; clear F)
      | (go_at_call 9; refine (P2.op (op_put _ P2.1 c room L s)).mono ?_; rintro e w' ⟨rfl, P', F⟩; replace B2 := B2.fr F (fun h => h (.inr rfl)); replace G2 := G2.trans (F.mono (fun _ _ h => fun hk => h (.inl hk))); replace P2 := P'; have S := B2.cell; clear F P')
      | (go_at_call 31; refine (P2.opr (opr_put _ P2.1 q room L hLl hnk s)).mono ?_; rintro e w' ⟨rfl, P', F⟩; replace B2 := B2.fr F (fun h => h (.inr rfl)); replace G2 := G2.trans (F.mono (fun _ _ h => fun hk => h (.inl hk))); replace P2 := P'; have S := B2.cell; clear F P'))
    go_wp2_with fail
    go_ret
    exact ⟨rfl, ⟨_, P2.step (Fr.refl w') (fun _ _ h => h) (fun _ h => .inl (.inl h)) (fun k h => P2.1 k (.inl h)), HPL.out⟩, G2⟩
  case' inr =>
    rcases Classical.em (r = 1) with hr1 | hr1
    case' inl =>
      subst hr1
      obtain ⟨x1, x2, x3, x4, t, htold⟩ := told_agg (getS L s.key a.now).1
      have HGL := Lib.hid (getS_len L s.key a.now)
      have HGT := Lib.hid htold
      clear htold HPL
      go_wp2_with fail
      refine (P2.op (op_get _ P2.1 c room L s.key a.now)).mono ?_
      rintro e w3 ⟨rfl, P3, F3⟩
      rw [HGT.out]
      replace B2 := B2.fr F3 (fun h => h (.inr rfl))
      replace G2 := G2.trans (F3.mono (fun _ _ h => fun hk => h (.inl hk)))
      replace S := B2.cell
      have lb := B2.lt
      have hal := alloc_old
      clear F3 P2
      go_wp2_with fail
      obtain ⟨y, hy⟩ : ∃ y, y = w3.heap.size := ⟨_, rfl⟩
      have B4 := Blk.new w3 37 #[.int .i64 x1, .int .i64 x2, .int .i64 x3, .int .i64 x4]
      have F5 : Fr (fun _ => False) w3 (w3.alloc (.cells #[.int .i64 x1, .int .i64 x2, .int .i64 x3, .int .i64 x4] 37)) := (Fr.refl w3).alloc _
      replace B2 := B2.fr F5 (fun h => h)
      replace G2 := G2.trans (F5.mono (fun _ _ h => h.elim))
      have P5 := P3.step (K' := fun k => K k ∨ k = n ∨ k = y) F5 (fun _ _ h => h.elim) (fun k h => by
        rcases h with h | h | h
        · exact .inl (.inl h)
        · exact .inl (.inr h)
        · exact .inr (by omega)) (fun k h => by
        have := B2.lt
        have := F5.size
        rcases h with h | h | h
        · have := P3.1 k (.inl h); omega
        · omega
        · simp only [World.size_alloc]; omega)
      replace S := B2.cell
      rw [← hy] at B4 ⊢
      clear F5 P3 hy lb
      generalize (w3.alloc (.cells #[.int .i64 x1, .int .i64 x2, .int .i64 x3, .int .i64 x4] 37)) = w5 at *
      refine (P5.opr (opr_get _ P5.1 q room L hLl hnk s.key a.now)).mono ?_
      rintro e w6 ⟨rfl, P6, F6⟩
      rw [HGT.out]
      replace B2 := B2.fr F6 (fun h => h (.inr (.inl rfl)))
      replace B4 := B4.fr F6 (fun h => h (.inr (.inr rfl)))
      replace G2 := G2.trans (F6.mono (fun _ _ h => fun hk => h (.inl hk)))
      replace S := B2.cell
      have S4 := B4.cell
      have lb4 := B4.lt
      clear F6 P5 HGT
      go_upto_region 8 with fail
      obtain ⟨z, hz⟩ : ∃ z, z = w6.heap.size := ⟨_, rfl⟩
      have B7 := Blk.new w6 29 #[.int .i64 x1, .int .i64 x2, .int .i64 x3, .int .i64 x4]
      have F7 : Fr (fun _ => False) w6 (w6.alloc (.cells #[.int .i64 x1, .int .i64 x2, .int .i64 x3, .int .i64 x4] 29)) := (Fr.refl w6).alloc _
      replace B4 := (B4.fr F7 (fun h => h)).drew
      replace G2 := (G2.trans (F7.mono (fun _ _ h => h.elim))).drew
      have P7 := (P6.step (K' := K) F7 (fun _ _ h => h.elim) (fun k h => .inl (.inl h)) (fun k h => Nat.lt_of_lt_of_le (P6.1 k (.inl h)) F7.size)).same (Fr.refl _).drew
      rw [← hz] at B7 ⊢
      replace B7 := B7.drew
      clear F7 P6 hz lb4 S S4 B2
      generalize (w6.alloc (.cells #[.int .i64 x1, .int .i64 x2, .int .i64 x3, .int .i64 x4] 29)) = w7 at *
      have hln : ((getS L s.key a.now).2.length : Int) ≤ room := by have h1 := HGL.out; have h2 := HL.out; omega
      have HLN := Lib.hid hln
      clear hln HGL HL
      generalize (getS L s.key a.now).2 = L7 at *
      have HP7 := Lib.hid P7
      have HG7 := Lib.hid G2
      clear P7 G2
      have F8 : Fr (fun _ => False) w7.drew w7.drew := Fr.refl _
      go_region_held3 (fun w' => (∀ i, w'.cell? ⟨y, i, none⟩ = (#[.int .i64 x1, .int .i64 x2, .int .i64 x3, .int .i64 x4] : Array Value)[i]?) ∧ (∀ i, w'.cell? ⟨z, i, none⟩ = (#[.int .i64 x1, .int .i64 x2, .int .i64 x3, .int .i64 x4] : Array Value)[i]?)) (exact ⟨B4.cell, B7.cell⟩)
        (first | (go_at_call 33; refine (of_any _ _ _ _ _).mono ?_; rintro e w' ⟨rfl, F⟩; replace B4 := B4.fr F (fun h => h); replace B7 := B7.fr F (fun h => h); replace F8 := F8.trans F; clear F))
      go_wp2_with fail
      go_ret
      exact ⟨rfl, ⟨_, HP7.out.same F8, HLN.out⟩, HG7.out.trans (F8.mono (fun _ _ h => h.elim))⟩
    case' inr =>
      clear HPL
      rcases Classical.em (r = 2) with hr2 | hr2
      case' inl =>
        subst hr2
        have hwr := hr
        go_upto_region 10 with fail
        replace P2 := P2.same (Fr.refl w2).drew
        replace B2 := B2.drew
        replace G2 := G2.drew
        have hlt : ((tickS L a.now).2.length : Int) ≤ room := by
          have h1 : (tickS L a.now).2.length ≤ L.length := List.length_filter_le _ _
          have h2 := HL.out
          omega
        have HLT := Lib.hid hlt
        clear hlt HL
        go_region_held3 (fun w' => ∀ i, w'.cell? ⟨n, i, none⟩ = (#[.int .i64 a.kind, .string s.key, .int .i64 s.k, .int .i64 s.date, .int .i64 s.reason, .int .i64 s.cause, .int .i64 s.fr, .int .i64 s.to, .int .i64 a.now, .slice a.ka a.kl a.kc] : Array Value)[i]?) (exact B2.cell) (first
          | (go_at_call 22; refine (P2.op (op_tick _ P2.1 c room L hLl a.now)).mono ?_; rintro e w' ⟨rfl, P', F⟩; replace B2 := B2.fr F (fun h => h (.inr rfl)); replace G2 := G2.trans (F.mono (fun _ _ h => fun hk => h (.inl hk))); replace P2 := P'; have S := B2.cell; clear F P')
          | (go_at_call 34; refine (P2.opr (opr_tick _ P2.1 q room L hLl a.now)).mono ?_; rintro e w' ⟨rfl, P', F⟩; replace B2 := B2.fr F (fun h => h (.inr rfl)); replace G2 := G2.trans (F.mono (fun _ _ h => fun hk => h (.inl hk))); replace P2 := P'; have S := B2.cell; clear F P'))
        go_wp2_with fail
        go_ret
        exact ⟨rfl, ⟨_, P2.step (Fr.refl w') (fun _ _ h => h) (fun _ h => .inl (.inl h)) (fun k h => P2.1 k (.inl h)), HLT.out⟩, G2⟩
      case' inr =>
        rcases Classical.em (r = 3) with hr3 | hr3
        case' inl =>
          subst hr3
          obtain ⟨ka, kc, he, hkc, hx⟩ := HKS.out
          simp only [Value.slice.injEq] at he
          obtain ⟨he1, he2, he3⟩ := he
          rw [he1, he2, he3] at B2 S
          rw [he1, he2, he3] at HKB
          have HX := Lib.hid hx
          clear hx HKS he1 he2 he3
          have q0 : (0 : Int) ≤ (ks.length : Int) := by omega
          have q1 : (ks.length : Int) ≤ (kc : Int) := by omega
          rcases Nat.eq_zero_or_pos ks.length with hk0 | hk0
          case' inl =>
            rw [hk0] at S B2 q0 q1
            clear HX HKB hk0
            go_wp2_with fail
            refine (drop_none _ _ _ _).mono ?_
            rintro e w3 ⟨rfl, rfl⟩
            go_wp2_with fail
            refine (rdrop_none _ _ _ _).mono ?_
            rintro e w3 ⟨rfl, rfl⟩
            go_wp2_with fail
            go_ret
            exact ⟨rfl, ⟨_, P2.step (Fr.refl _) (fun _ _ h => h) (fun _ h => .inl (.inl h)) (fun k h => P2.1 k (.inl h)), HL.out⟩, G2⟩
          case' inr =>
            obtain ⟨U, hU, hUl, hXU⟩ : ∃ U : List ByteArray, U = ks.take 10 ∧ U.length ≤ 10 ∧ Strs w2 (.slice ka U.length kc) U := by
              refine ⟨_, rfl, by rw [List.length_take]; omega, ka, kc, rfl, by rw [List.length_take]; omega, fun _ => ?_⟩
              obtain ⟨b, o, rfl, hxx⟩ := HX.out hk0
              refine ⟨b, o, rfl, fun i hi => ?_⟩
              rw [List.length_take] at hi
              have e1 := G2.cell (hxx i (by omega)) (fun h => h (HKB.out hk0 b rfl))
              rw [e1]
              simp only [List.getD_eq_getElem?_getD]
              rw [List.getElem?_take, if_pos (by omega)]
            have hKU : ∀ k, (Value.slice ka U.length kc).ownBlock = some k → K k := fun k h => HKB.out hk0 k (by
              cases ka with
              | none => simp [Value.ownBlock] at h
              | some p => simpa [Value.ownBlock] using h)
            have hlt : ((dropS L U).2.length : Int) ≤ room := by
              have h1 := dropS_len U L
              have h2 := HL.out
              omega
            have HLT := Lib.hid hlt
            have HKU := Lib.hid hKU
            have hUU : ks.length ≤ 10 → U.length = ks.length := fun h => by rw [hU, List.length_take]; omega
            have hUV : ¬ ks.length ≤ 10 → U.length = 10 := fun h => by rw [hU, List.length_take]; omega
            have HUU := Lib.hid hUU
            have HUV := Lib.hid hUV
            have HXU := Lib.hid hXU
            clear hlt HL hKU HKB HX hU hUU hUV hXU
            by_cases hk10 : (10 : Int) < (ks.length : Int)
            case' pos =>
              go_wp2_with fail
              rw [← HUV.out (by omega)]
            case' neg =>
              go_wp2_with fail
              rw [← HUU.out (by omega)]
            all_goals
              refine (P2.op (op_drop _ P2.1 c room L HXU.out (by omega) (fun k hk => .inl (HKU.out k hk)))).mono ?_
              rintro e w3 ⟨rfl, P3, F3⟩
              have X3 := HXU.out.fr F3 (fun k hk h => h (.inl (HKU.out k hk)))
              have G3 := G2.trans (F3.mono (fun _ _ h => fun hk => h (.inl hk)))
              clear F3
              go_wp2_with fail
              refine (P3.opr (opr_drop _ P3.1 q room L hLl hnk X3 (by omega) (fun k hk => .inl (HKU.out k hk)))).mono ?_
              rintro e w4 ⟨rfl, P4, F4⟩
              have G4 := G3.trans (F4.mono (fun _ _ h => fun hk => h (.inl hk)))
              clear F4
              go_wp2_with fail
              go_ret
              exact ⟨rfl, ⟨_, P4.step (Fr.refl _) (fun _ _ h => h) (fun _ h => .inl (.inl h)) (fun k h => P4.1 k (.inl h)), HLT.out⟩, G4⟩
        case' inr =>
          go_wp2_with fail
          refine (P2.op (op_clear _ P2.1 c room L)).mono ?_
          rintro e w3 ⟨rfl, P3, F3⟩
          have PW := P3.wipe
          have hqz := P3.ref.not
          obtain ⟨sl, BQ, _, _, _⟩ := P3.ref
          have e1 := BQ.frozen 1
          have e0 := BQ.cell 1
          simp at e0
          have G3 := (G2.trans (F3.mono (fun _ _ h => fun hk => h (.inl hk)))).setCell (p := ⟨q, 1, none⟩) (fun _ => fun h => hqz.1 (.inl h)) (.slice none 0 0)
          go_wp2_with fail
          go_ret
          exact ⟨rfl, ⟨[], PW.step (Fr.refl _) (fun _ _ h => h) (fun _ h => .inl (.inl h)) (fun k h => PW.1 k (.inl h)), by simpa using h0⟩, G3⟩
end Go.Proofs.Ytjcjebmlibllbaa
