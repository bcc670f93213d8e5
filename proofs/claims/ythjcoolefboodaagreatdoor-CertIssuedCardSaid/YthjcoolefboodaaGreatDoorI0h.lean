/-
  Merged by program: XNIter3 XNText3 XNText4 XNText5 XNPut XNTextOf XNTextW XNTextR.
-/
import Derived.Test.YthjcoolefboodaaGreatDoorI0g
import Derived.Test.YthjcoolefboodaaGreatDoorI0d
import Derived.Test.YthjcoolefboodaaGreatDoorI0a
import Derived.Lib.RuneBytes
namespace Go.Q
open Go Go.RowKit
def signAt (l : List UInt8) : Int := if (decS l).1 = 65533 ∧ (decS l).2 ≤ 1 then -1 else ((decS l).1 : Int)
theorem wideS_cons (f : Nat) (x : UInt8) (t : List UInt8) : wideS (f + 1) (x :: t) = signAt (x :: t) :: wideS f ((x :: t).drop (decS (x :: t)).2) := rfl
end Go.Q
namespace Go.Proofs.YthjcoolefboodaaGreatDoor
open Go Go.RowKit Go.Q
attribute [local go_sem] Oper.semAt_some
set_option maxRecDepth 100000 in
set_option maxHeartbeats 1000000 in
theorem wide1_iter (v : Value) (l : List UInt8) (cb base : Nat) (w : World) (hc : Blk w cb 22 #[v]) (hv : Bytes w v l) (hoff : Off v l.length (fun k => base ≤ k)) (hcb : base ≤ cb) (hT : Tabs w) (h2 : 3 < base) :
    Iter Tryz.prog 243 #[pt cb] (wideS l.length l) cb base w := by
  intro lp J Jx W hW hJ hJx hY h0
  have BW := hc.fr hW (fun h => h)
  have hv1 := hv.old hW
  have hT1 := hT.old hW
  refine callsIn_of_wp Tryz.func243 rfl trivial ?_ rfl
  simp only [Tryz.ntmps243, List.size_toArray, List.length_cons, List.length_nil, Nat.reduceAdd, Nat.reduceSub, Array.replicate_succ, Array.replicate_zero, List.push_toArray, List.append_toArray, List.nil_append, List.cons_append]
  gi_wp2
  gi_loopw [6] (fun _ wr => ∃ (pre : List Int) (r : List UInt8) (u : Value) (f : Nat), wideS l.length l = pre ++ wideS f r ∧ r.length ≤ f ∧ Blk wr cb 22 #[u] ∧ Bytes wr u r ∧ Off u r.length (fun k => base ≤ k) ∧ Tabs wr ∧ J pre wr) (fun _ wr => cellLen wr cb)
  case atStart => exact ⟨[], l, v, l.length, rfl, Nat.le_refl _, BW, hv1, hoff, hT1, h0⟩
  case round =>
    obtain ⟨pre, r, u, f, hxs, hf, B, hr, ho, hTr, hj⟩ := hrel
    rcases r with _ | ⟨x, t⟩
    · obtain ⟨a, cap, rfl, hcap, hmax, hx⟩ := Vals.form hr
      have e0 := B.cell 0
      simp at e0
      simp only [List.length_nil] at *
      have hxn : wideS l.length l = pre := by rw [hxs]; cases f <;> simp [wideS]
      gi_wp2
      go_end0
      exact ⟨⟨_, rfl⟩, .inl (by rw [hxn]; exact hj)⟩
    · obtain ⟨f, rfl⟩ : ∃ g, f = g + 1 := ⟨f - 1, by simp only [List.length_cons] at hf; omega⟩
      rw [wideS_cons] at hxs
      obtain ⟨b1, b2, b3⟩ := decS_bound (l := x :: t) (by simp)
      have HD := Lib.hid (decode_any u (x :: t) wr hr (by simp) hTr)
      obtain ⟨a, cap, rfl, hcap, hmax, hx⟩ := Vals.form hr
      obtain ⟨b, o, rfl, hcell⟩ := hx (by simp)
      obtain ⟨k, hk⟩ : ∃ k, k = (decS (x :: t)).2 := ⟨_, rfl⟩
      obtain ⟨R, hR⟩ : ∃ R, R = (decS (x :: t)).1 := ⟨_, rfl⟩
      have hsg : signAt (x :: t) = if R = 65533 ∧ k ≤ 1 then -1 else (R : Int) := by rw [hk, hR]; rfl
      obtain ⟨n, hn⟩ : ∃ n, n = (x :: t).length := ⟨_, rfl⟩
      obtain ⟨r, hr0⟩ : ∃ r, r = x :: t := ⟨_, rfl⟩
      rw [← hk] at hxs b1 b2 HD
      rw [← hR] at b3 HD
      rw [← hn] at hf hcap B hr ho hx b2 HD
      rw [← hr0] at hxs hr hn hsg
      have e0 := B.cell 0
      simp at e0
      have hn0 : 0 < n := by rw [hn, hr0]; simp
      have q1 : (0 : Int) < (n : Int) := by omega
      have hwr : wrap64 (R : Int) = (R : Int) := wrap_nat R (by omega)
      have hz1 : (k : Int) ≤ (n : Int) := by omega
      have hz2 : (0 : Int) ≤ (k : Int) := by omega
      have hz3 : k ≤ n := b2
      have hz4 : k ≤ cap := by omega
      have hz5 : (n : Int) ≤ (cap : Int) := by omega
      have HN := Lib.hid hn
      clear hr0 hk hR hx hcell hn
      have hcases : (R = 65533 ∧ k ≤ 1 ∧ signAt r = -1) ∨ (R = 65533 ∧ ¬ k ≤ 1 ∧ signAt r = 65533) ∨ (R ≠ 65533 ∧ signAt r = (R : Int)) := by
        by_cases h1 : R = 65533
        · by_cases h3 : k ≤ 1
          · exact .inl ⟨h1, h3, by rw [hsg, if_pos ⟨h1, h3⟩]⟩
          · exact .inr (.inl ⟨h1, h3, by rw [hsg, if_neg (fun h => h3 h.2), h1]; rfl⟩)
        · exact .inr (.inr ⟨h1, by rw [hsg, if_neg (fun h => h1 h.1)]⟩)
      have hb : ¬ base ≤ b := ho hn0 b rfl
      clear hsg
      rcases hcases with ⟨h1, h3, hs⟩ | ⟨h1, h3, hs⟩ | ⟨h1, hs⟩
      case' inl =>
        subst h1
        have q2 : (k : Int) ≤ 1 := by omega
      case' inr.inl =>
        subst h1
        have q2 : ¬ (k : Int) ≤ 1 := by omega
      case' inr.inr =>
        have q2 : ((R : Int) == 65533) = false := beq_eq_false_iff_ne.2 (by omega)
        have q3 : (R == 65533) = false := beq_eq_false_iff_ne.2 h1
      all_goals
        gi_wp2_with (refine ⟨trivial, ?_⟩; gi_at_call 244; refine (callsIn_wide.2 HD.out).mono ?_; rintro e w2 ⟨rfl, F2⟩; have B2 := B.fr F2 (fun h => h); have e2 := B2.cell 0; have f2 := B2.frozen 0; simp at e2; obtain ⟨fn, tmps, assign, body, hyy, hR⟩ := hY pre _ _ w2 hxs (hJ _ _ _ hj (F2.mono (fun _ _ h => h.elim))); rw [hs] at hyy)
        refine hR.mono ?_
        rintro e W3 (⟨rfl, hJ3, F3⟩ | ⟨rfl, hJx3⟩)
        · have B3 := B2.fr F3 (fun h => h.2 rfl)
          have e3 := B3.cell 0
          have f3 := B3.frozen 0
          simp at e3
          have hr3 : Bytes W3 (.slice (some ⟨b, o, none⟩) n cap) r := (hr.old F2).fr F3 (fun h0 k hk hs => by
            simp only [Value.ownBlock, Option.some.injEq] at hk
            subst hk
            exact hb hs.1)
          have hT3 := (hTr.old F2).fr F3 (fun h => by omega) (fun h => by omega)
          have HT3 := Lib.hid hT3
          have HJ3 := Lib.hid hJ3
          clear hyy hJ3 hT3
          gi_wp2
          obtain ⟨B4, hr4, ho4, F4⟩ := slice_on B3 hr3 hb hcb k (n - k) (cap - k) (if cap = k then some ⟨b, o, none⟩ else some ⟨b, o + k, none⟩) (by omega) (fun h => if_neg (by omega)) (by omega) (by omega)
          have hdl : (r.drop k).length = n - k := by rw [List.length_drop, ← HN.out]
          go_roundw
          case rel => exact ⟨pre ++ [signAt r], r.drop k, _, f, by rw [hxs]; simp, by rw [hdl]; omega, B4, hr4, by rw [hdl]; exact ho4, HT3.out.fr F4 (by omega) (by omega), hJ _ _ _ HJ3.out F4⟩
          case measure =>
            rw [cellLen_of B4, cellLen_of B]
            omega
        · gi_wp2
          refine bodyPost_ret (results_none rfl _ _ _) rfl ?_
          exact ⟨⟨_, rfl⟩, .inr ⟨_, ⟨wideS f (r.drop k), by simp [hxs]⟩, hJx3⟩⟩
end Go.Proofs.YthjcoolefboodaaGreatDoor

namespace Go.Proofs.YthjcoolefboodaaGreatDoor
open Go Go.RowKit Go.Q
attribute [local go_sem] Oper.semAt_some
def SigOut (w w' : World) (l : List Int) (base : Nat) (e : Ending) : Prop :=
  ∃ gf cb : Nat, e = .returned (.func (.func gf) #[] #[pt cb]) ∧ base ≤ cb ∧ w.heap.size ≤ cb ∧ cb < w'.heap.size ∧ (∀ args w, (callFunc gf args).run Tryz.prog w = .ok (.enter gf args) w) ∧ Iter Tryz.prog gf #[pt cb] l cb base w'
set_option maxRecDepth 20000 in
theorem signs_any (k : Int) (v : Value) (b : List UInt8) (w : World) (base : Nat) (hv : Bytes w v b) (hoff : Off v b.length (fun k => base ≤ k)) (hb : base ≤ w.heap.size) (hT : Tabs w) (h2 : 3 < base) :
    Calls Tryz.prog 200 #[.agg #[.int .i64 k, v]] w fun e w' => SigOut w w' (signsS k b) base e ∧ Fr (fun _ => False) w w' := by
  have F : Fr (fun _ => False) w ((w.alloc (.cells #[.int .i64 k, v] 215)).alloc (.cells #[v] 22)) := ((Fr.refl w).alloc _).alloc _
  have B := Blk.new (w.alloc (.cells #[.int .i64 k, v] 215)) 22 #[v]
  rw [World.size_alloc] at B
  have hv1 := hv.old F
  have hT1 := hT.old F
  have hcb : base ≤ w.heap.size + 1 := by omega
  have hlt : w.heap.size + 1 < ((w.alloc (.cells #[.int .i64 k, v] 215)).alloc (.cells #[v] 22)).heap.size := by simp
  obtain ⟨a, cap, rfl, -⟩ := hv.form
  have H12 := wide1_iter _ b _ base _ B hv1 hoff hcb hT1 h2
  have H30 := pairs1_iter _ b _ base _ B hv1 hoff hcb
  have h0 := B.cell 0
  simp only [List.getElem?_toArray, List.getElem?_cons_zero] at h0
  have H0 := single1_iter _ b _ base _ h0 hv1 hoff
  have HH12 := Lib.hid H12
  have HH30 := Lib.hid H30
  have HH0 := Lib.hid H0
  have HF := Lib.hid F
  have HLT := Lib.hid hlt
  clear H12 H30 H0 F hlt h0 B hv1 hv hoff hT1 hT
  have hk : k = 12 ∨ k = 30 ∨ (k ≠ 12 ∧ k ≠ 30) := by omega
  rcases hk with rfl | rfl | ⟨h12, h30⟩
  · go_enter Tryz.func200, Tryz.ntmps200
    go_wp2_with (first | (go_at_call 225; go_in))
    go_ret
    exact ⟨⟨243, w.heap.size + 1, rfl, hcb, Nat.le_succ _, HLT.out, enters_of Tryz.func243 (by kernel_rfl) rfl, HH12.out⟩, HF.out⟩
  · go_enter Tryz.func200, Tryz.ntmps200
    go_wp2_with (first | (go_at_call 226; go_in))
    go_ret
    exact ⟨⟨245, w.heap.size + 1, rfl, hcb, Nat.le_succ _, HLT.out, enters_of Tryz.func245 (by kernel_rfl) rfl, HH30.out⟩, HF.out⟩
  · have q1 : (k == 12) = false := beq_eq_false_iff_ne.2 h12
    have q2 : (k == 30) = false := beq_eq_false_iff_ne.2 h30
    have hs : signsS k b = byteInts b := by unfold signsS; rw [if_neg h12, if_neg h30]; rfl
    have HS := Lib.hid hs
    clear hs
    go_enter Tryz.func200, Tryz.ntmps200
    go_wp2_with (first | (go_at_call 227; go_in))
    go_ret
    exact ⟨⟨246, w.heap.size + 1, rfl, hcb, Nat.le_succ _, HLT.out, enters_of Tryz.func246 (by kernel_rfl) rfl, by rw [HS.out]; exact HH0.out⟩, HF.out⟩
end Go.Proofs.YthjcoolefboodaaGreatDoor

namespace Go.Proofs.YthjcoolefboodaaGreatDoor
open Go Go.RowKit Go.Q
attribute [local go_sem] Oper.semAt_some
set_option maxRecDepth 100000 in
set_option maxHeartbeats 2000000 in
theorem rightText_any (k : Int) (v : Value) (b : List UInt8) (w : World) (hv : Bytes w v b) (hT : Tabs w) :
    Calls Tryz.prog 199 #[.agg #[.int .i64 k, v]] w fun e w' => e = .returned (.bool (rightS k b)) ∧ Fr (fun _ => False) w w' := by
  obtain ⟨z, hz⟩ : ∃ z, z = w.heap.size := ⟨_, rfl⟩
  have h2 : 3 < z := by rw [hz]; exact hT.size
  have hoff : Off v b.length (fun k => z ≤ k) := fun h0 j hj hk => by
    have := hv.lt (by rw [byteCells_len]; exact h0) j hj
    omega
  obtain ⟨a, cap, rfl, -⟩ := hv.form
  have F0 : Fr (fun _ => False) w ((w.alloc (.cells #[.int .i64 k, .slice a b.length cap] 215)).alloc (.cells #[.bool false] 4)) := ((Fr.refl w).alloc _).alloc _
  have BT := (Blk.new w 215 #[.int .i64 k, .slice a b.length cap]).alloc (.cells #[.bool false] 4)
  have BR := Blk.new (w.alloc (.cells #[.int .i64 k, .slice a b.length cap] 215)) 4 #[.bool false]
  rw [World.size_alloc, ← hz] at BR
  rw [← hz] at BT
  have hv0 := hv.old F0
  have hT0 := hT.old F0
  have hs0 := F0.size
  have HF0 := Lib.hid F0
  have HZ := Lib.hid hz
  refine (callsIn_wide (n := 3)).1 ?_
  refine callsIn_of_wp_marks Tryz.func199 rfl trivial ?_ rfl
  simp only [Tryz.ntmps199, List.size_toArray, List.length_cons, List.length_nil, Nat.reduceAdd, Nat.reduceSub, Array.replicate_succ, Array.replicate_zero, List.push_toArray, List.append_toArray, List.nil_append, List.cons_append]
  gi_upto_region 1 with fail
  rw [← HZ.out]
  obtain ⟨w1, hw1⟩ : ∃ w1, w1 = ((w.alloc (.cells #[.int .i64 k, .slice a b.length cap] 215)).alloc (.cells #[.bool false] 4)) := ⟨_, rfl⟩
  rw [← hw1] at HF0 BT BR hv0 hT0 hs0 ⊢
  rw [← hz] at hs0
  clear hw1 F0 hv hT hz
  have z0 := BT.cell 0
  simp at z0
  cases hk : Go.Q.kindOk k with
  | false =>
    have hr : rightS k b = false := by unfold rightS; rw [hk]; rfl
    have HR := Lib.hid hr
    have HK := Lib.hid (known_any k w1)
    rw [hk] at HK
    clear hr hk
    gi_wp2_with (refine ⟨trivial, ?_⟩; gi_at_call 201; refine (callsIn_wide.2 HK.out).mono ?_; rintro e w2 ⟨rfl, F2⟩; have BR2 := BR.fr F2 (fun h => h); have r0 := BR2.cell 0; have f0 := BR2.frozen 0; simp at r0)
    have F4 : Fr (fun k => k = z + 1) w2 (w2.setCell ⟨z + 1, 0, none⟩ (.bool false)) := Fr.setCell (S := fun k => k = z + 1) (p := ⟨z + 1, 0, none⟩) (Fr.refl w2) (fun _ => rfl) _
    have r1 := (BR2.set 0 (.bool false)).cell 0
    simp at r1
    exact ⟨.bool false, by simp [results, Tryz.results199, go_sem, r1], by rw [HR.out], (HF0.out.trans F2).trans' F4 (fun i hi e => absurd hi (by rw [← HZ.out]; omega))⟩
  | true =>
    have hr : rightS k b = (signsS k b).all (mayS k) := by unfold rightS; rw [hk, Bool.true_and]
    have HR := Lib.hid hr
    have HK := Lib.hid (known_any k w1)
    rw [hk] at HK
    obtain ⟨xs, hxs⟩ : ∃ xs, xs = signsS k b := ⟨_, rfl⟩
    rw [← hxs] at HR
    have HXS := Lib.hid hxs
    clear hr hk hxs
    gi_wp2_with (refine ⟨trivial, ?_⟩; gi_at_call 201; refine (callsIn_wide.2 HK.out).mono ?_; rintro e w2 ⟨rfl, F2⟩; have BT2 := BT.fr F2 (fun h => h); have BR2 := BR.fr F2 (fun h => h); have t0 := BT2.cell 0; have t1 := BT2.cell 1; simp at t0 t1; have HG := Lib.hid (signs_any k _ b w2 z (hv0.old F2) hoff (Nat.le_trans hs0 F2.size) (hT0.old F2) h2))
    refine ⟨trivial, (callsIn_wide.2 HG.out).mono ?_⟩
    rintro e w3 ⟨⟨gf, cb, rfl, hzc, hgc, hcl, heg, hit⟩, F3⟩
    rw [← HXS.out] at hit
    have lr2 := BR2.lt
    have BT3 := BT2.fr F3 (fun h => h)
    have BR3 := BR2.fr F3 (fun h => h)
    have HF3 := Lib.hid ((HF0.out.trans F2).trans F3)
    have lr3 := BR3.lt
    have HIT := Lib.hid hit
    clear HG HK hv0 hT0 BT BR BT2 BR2 F2 F3 t0 t1 z0 hit
    gi_wp2
    refine range_law (gf := gf) (lb := #[pt cb]) rfl heg hcl (Nat.le_of_lt (Nat.lt_of_lt_of_le (Nat.lt_succ_self z) (Nat.le_of_lt lr3))) HIT.out rfl
      (fun pre W => Blk W z 215 #[.int .i64 k, .slice a b.length cap] ∧ Blk W (z + 1) 4 #[.bool false] ∧ Fr (fun _ => False) w W ∧ ∀ n ∈ pre, mayS k n = true)
      (fun c pre W => c = .ret ∧ Blk W (z + 1) 4 #[.bool false] ∧ Fr (fun _ => False) w W ∧ ∃ n ∈ pre, mayS k n = false)
      (fun s A B h f => ⟨h.1.fr f (by omega), h.2.1.fr f (by omega), h.2.2.1.trans' f (fun i hi e => by have := HZ.out; omega), h.2.2.2⟩)
      (fun c s A B h f => ⟨h.1, h.2.1.fr f (by omega), h.2.2.1.trans' f (fun i hi e => by have := HZ.out; omega), h.2.2.2⟩)
      ⟨BT3, BR3, HF3.out, by simp⟩
      (fun x => { tmps := #[.agg #[.int .i64 k, .slice a b.length cap], .pointer (some ⟨z, 0, none⟩), .pointer (some ⟨z + 1, 0, none⟩), .int .i64 x, .pointer (some ⟨z, 0, none⟩), .int .i64 k, .bool true, .bool false, .agg #[.int .i64 k, .slice a b.length cap], .func (.func gf) #[] #[pt cb], .int .i64 x, undef, undef, undef, undef, undef], defers := [] }) ?assign ?body ?done ?stop
    case assign =>
      intro l x W K hK
      gi_wp2
      exact hK
    case body =>
      rintro l pre x rest W hx ⟨BT, BR, F, hall⟩ hE
      have t0 := BT.cell 0
      have r0 := BR.cell 0
      have f0 := BR.frozen 0
      simp at t0 r0
      obtain ⟨m, hm⟩ : ∃ m, m = mayS k x := ⟨_, rfl⟩
      have HM := Lib.hid hm
      have HY := Lib.hid (may_any k x W)
      rw [← hm] at HY
      clear hm HIT
      cases m with
      | false =>
        gi_wp2_with (refine ⟨trivial, ?_⟩; gi_at_call 202; refine (CallsIn.inRound l (callsIn_wide.2 HY.out)).mono ?_; rintro e W2 ⟨rfl, rfl⟩)
        have F4 : Fr (fun k => k = z + 1) W (W.setCell ⟨z + 1, 0, none⟩ (.bool false)) := Fr.setCell (S := fun k => k = z + 1) (p := ⟨z + 1, 0, none⟩) (Fr.refl W) (fun _ => rfl) _
        have B4 := BR.set 0 (.bool false)
        simp at B4
        exact ⟨F4.mono (fun k _ e => ⟨by omega, by omega, by omega, by omega⟩), rfl, B4, F.trans' F4 (fun i hi e => by have := HZ.out; omega), x, by simp, HM.out.symm⟩
      | true =>
        gi_wp2_with (refine ⟨trivial, ?_⟩; gi_at_call 202; refine (CallsIn.inRound l (callsIn_wide.2 HY.out)).mono ?_; rintro e W2 ⟨rfl, rfl⟩)
        refine ⟨Fr.refl W, BT, BR, F, fun n hn => ?_⟩
        rcases List.mem_append.1 hn with h | h
        · exact hall n h
        · rw [List.mem_singleton.1 h]; exact HM.out.symm
    case done =>
      rintro D W hD ⟨BT, BR, F, hall⟩ hK
      have hr : rightS k b = true := by rw [HR.out, List.all_eq_true]; exact hall
      have HRR := Lib.hid hr
      have r0 := BR.cell 0
      have f0 := BR.frozen 0
      simp at r0
      have F4 : Fr (fun k => k = z + 1) W (W.setCell ⟨z + 1, 0, none⟩ (.bool true)) := Fr.setCell (S := fun k => k = z + 1) (p := ⟨z + 1, 0, none⟩) (Fr.refl W) (fun _ => rfl) _
      have B4 := BR.set 0 (.bool true)
      simp at B4
      have hK4 := (F4.block D (Array.getElem?_eq_some_iff.1 hK).1 (by omega)).trans hK
      have F5 : Fr (fun k => k = D) (W.setCell ⟨z + 1, 0, none⟩ (.bool true)) ((W.setCell ⟨z + 1, 0, none⟩ (.bool true)).putObj D (.deferred none)) := Fr.putObj (S := fun k => k = D) (Fr.refl _) D (fun _ => rfl) _
      have r5 := (B4.fr F5 (by omega)).cell 0
      simp at r5
      clear hr HIT
      gi_wp2
      refine ⟨by simp, .inl ⟨_, _, rfl, run_takeDeferred hK4, ?_⟩⟩
      exact ⟨.bool true, by simp [results, Tryz.results199, go_sem, r5], by rw [HRR.out], (F.trans' F4 (fun i hi e => by have := HZ.out; omega)).trans' F5 (fun i hi e => by have := HZ.out; omega)⟩
    case stop =>
      rintro D c pre W hD hpre ⟨rfl, BR, F, n, hn, hm⟩ hK
      have hr : rightS k b = false := by rw [HR.out, List.all_eq_false]; exact ⟨n, hpre.subset hn, by rw [hm]; simp⟩
      have HRR := Lib.hid hr
      have r0 := BR.cell 0
      simp at r0
      have F5 : Fr (fun k => k = D) W (W.putObj D (.deferred none)) := Fr.putObj (S := fun k => k = D) (Fr.refl _) D (fun _ => rfl) _
      have r5 := (BR.fr F5 (by omega)).cell 0
      simp at r5
      clear hr HIT
      gi_wp2
      refine ⟨by simp, .inl ⟨_, _, rfl, run_takeDeferred hK, ?_⟩⟩
      exact ⟨.bool false, by simp [results, Tryz.results199, go_sem, r5], by rw [HRR.out], F.trans' F5 (fun i hi e => by have := HZ.out; omega)⟩
end Go.Proofs.YthjcoolefboodaaGreatDoor

namespace Go.Q
open Go Go.RowKit
theorem wpListIn_append_run {P : Program} {F : Fence} {n : Nat} {w : World} {ops : Array Oper} {rest : List Oper} {o : Oper} {a : Act} {Q : Exit → Act → World → Prop} (hgd : o.guard = none) (s x : Operand) (t : TypeId)
    (ho : o.op = .call { callee := .builtin .append, args := #[s, x], argTypes := #[t, t] }) (v' : Value) (w' : World)
    (hr : (Builtin.append_ #[t, t] o.type #[a.eval s, a.eval x]).run P w = .ok v' w') (h : wpListIn F n P ops Q rest (a.put o.dst v') w') : wpListIn F n P ops Q (o :: rest) a w := by
  refine wpListIn_plain hgd fun K hK => ?_
  unfold Oper.wpIn
  refine ⟨by simp [Oper.about, ho, resolve, Target.leads, Sem.run_pure], ?_⟩
  rw [Oper.semAt_plain F _ _ (by rw [ho]; intro c hc; cases hc)]
  simp [execOp, ho, resolve, invoke, builtin, hr, Result.andThen]
  exact hK _ _ h
theorem wideS_len : ∀ (f : Nat) (l : List UInt8), (wideS f l).length ≤ f
  | 0, [] => by simp [wideS]
  | 0, _ :: _ => by simp [wideS]
  | f + 1, [] => by simp [wideS]
  | f + 1, x :: t => by
    have := wideS_len f ((x :: t).drop (decS (x :: t)).2)
    simp only [wideS, List.length_cons]
    omega
theorem pairsS_len : ∀ l : List UInt8, (pairsS l).length ≤ l.length
  | [] => by simp [pairsS]
  | [_] => by simp [pairsS]
  | _ :: _ :: t => by
    have := pairsS_len t
    simp only [pairsS, List.length_cons]
    omega
theorem signsS_len (k : Int) (b : List UInt8) : (signsS k b).length ≤ b.length := by
  unfold signsS
  split
  · exact wideS_len _ _
  split
  · exact pairsS_len _
  · simp
end Go.Q
namespace Go.Proofs.YthjcoolefboodaaGreatDoor
open Go Go.RowKit Go.Q
attribute [local go_sem] Oper.semAt_some
set_option maxRecDepth 100000 in
set_option maxHeartbeats 2000000 in
theorem signsText_any (k : Int) (v : Value) (b : List UInt8) (w : World) (hv : Bytes w v b) (hT : Tabs w) (hbl : b.length ≤ 1099511627) (hok : rightS k b = true) :
    Calls Tryz.prog 169 #[.agg #[.int .i64 k, v]] w fun e w' => (∃ u, e = .returned (.tuple #[u, .int .i64 0]) ∧ w'.ownsRow w.heap.size 3 1 u (signsS k b).length (intCells (signsS k b))) ∧ Fr (fun _ => False) w w' := by
  obtain ⟨xs, hxs⟩ : ∃ xs, xs = signsS k b := ⟨_, rfl⟩
  have hxl : xs.length ≤ b.length := by rw [hxs]; exact signsS_len k b
  rw [← hxs]
  have HXS := Lib.hid hxs
  clear hxs
  obtain ⟨z, hz⟩ : ∃ z, z = w.heap.size := ⟨_, rfl⟩
  have h2 : 3 < z := by rw [hz]; exact hT.size
  have hoff : Off v b.length (fun k => z ≤ k) := fun h0 j hj hk => by
    have := hv.lt (by rw [byteCells_len]; exact h0) j hj
    omega
  obtain ⟨a, cap, rfl, -⟩ := hv.form
  have F0 : Fr (fun _ => False) w (w.alloc (.cells #[.int .i64 k, .slice a b.length cap] 215)) := (Fr.refl w).alloc _
  have BT := Blk.new w 215 #[.int .i64 k, .slice a b.length cap]
  rw [← hz] at BT
  have hv0 := hv.old F0
  have hT0 := hT.old F0
  have hs0 := F0.size
  have HF0 := Lib.hid F0
  have HZ := Lib.hid hz
  refine (callsIn_wide (n := 3)).1 ?_
  refine callsIn_of_wp_marks Tryz.func169 rfl trivial ?_ rfl
  simp only [Tryz.ntmps169, List.size_toArray, List.length_cons, List.length_nil, Nat.reduceAdd, Nat.reduceSub, Array.replicate_succ, Array.replicate_zero, List.push_toArray, List.append_toArray, List.nil_append, List.cons_append]
  gi_upto_region 1 with fail
  rw [← HZ.out]
  obtain ⟨w1, hw1⟩ : ∃ w1, w1 = w.alloc (.cells #[.int .i64 k, .slice a b.length cap] 215) := ⟨_, rfl⟩
  rw [← hw1] at HF0 BT hv0 hT0 hs0 ⊢
  rw [← hz] at hs0
  clear hw1 F0 hv hT hz
  have t0 := BT.cell 0
  have t1 := BT.cell 1
  simp at t0 t1
  have HK := Lib.hid (rightText_any k _ b w1 hv0 hT0)
  rw [hok] at HK
  clear hok
  gi_upto_region 4 with (refine ⟨trivial, ?_⟩; gi_at_call 199; refine (callsIn_wide.2 HK.out).mono ?_; rintro e w2 ⟨rfl, F2⟩; have BT2 := BT.fr F2 (fun h => h); have t0 := BT2.cell 0; have t1 := BT2.cell 1; simp at t0 t1)
  obtain ⟨g, hg⟩ : ∃ g, g = w2.heap.size := ⟨_, rfl⟩
  have F3 : Fr (fun _ => False) w2 (w2.alloc (.cells #[.slice none 0 0] 26)) := (Fr.refl w2).alloc _
  have BT3 := BT2.fr F3 (fun h => h)
  have BG3 := Blk.new w2 26 #[.slice none 0 0]
  have hs1 := F2.size
  have HSG := Lib.hid (signs_any k _ b _ z ((hv0.old F2).old F3) hoff (Nat.le_trans hs0 (F2.trans F3).size) ((hT0.old F2).old F3) h2)
  have HF3 := Lib.hid ((HF0.out.trans F2).trans F3)
  rw [← hg] at BG3 ⊢
  have hgz : z < g := by have := BT2.lt; omega
  have hgw := BG3.lt
  clear HK hv0 hT0 BT BT2 F2 F3 t0 t1 hg hs1
  generalize (w2.alloc (.cells #[.slice none 0 0] 26)) = w3 at *
  have t0 := BT3.cell 0
  have t1 := BT3.cell 1
  simp at t0 t1
  gi_wp2_with fail
  refine ⟨trivial, (callsIn_wide.2 HSG.out).mono ?_⟩
  rintro e w4 ⟨⟨gf, cb, rfl, hzc, hgc, hcl, heg, hit⟩, F4⟩
  rw [← HXS.out] at hit
  have BT4 := BT3.fr F4 (fun h => h)
  have BG4 := BG3.fr F4 (fun h => h)
  have HF4 := Lib.hid (HF3.out.trans F4)
  have lg4 := BG4.lt
  have HIT := Lib.hid hit
  clear HSG BT3 BG3 F4 t0 t1 hit HF3
  gi_wp2
  obtain ⟨E, hE0⟩ : ∃ E, E = w4.heap.size := ⟨_, rfl⟩
  have HE := Lib.hid hE0
  refine range_law (gf := gf) (lb := #[pt cb]) rfl heg hcl (base := z) (Nat.le_of_lt (Nat.lt_trans hgz lg4)) HIT.out rfl
    (fun pre W => ∃ u, Blk W g 26 #[u] ∧ W.ownsRow (E + 2) 3 1 u pre.length (intCells pre) ∧ Fr (fun _ => False) w W)
    (fun _ _ _ => False)
    (fun s A B h f => by
      obtain ⟨u, h1, h3, h4⟩ := h
      exact ⟨u, h1.fr f (by omega), ownsRow_fr h3 f (fun j hj e => by have := ((Vals.of_own h3).2 j hj).1; omega), h4.trans' f (fun i hi e => by have := HZ.out; omega)⟩)
    (fun c s A B h f => h)
    ⟨_, BG4, ⟨rfl, .inl ⟨rfl, rfl⟩⟩, HF4.out⟩
    (fun x => { tmps := #[.agg #[.int .i64 k, .slice a b.length cap], .pointer (some ⟨z, 0, none⟩), .slice none 0 0, .int .i64 0, .pointer (some ⟨g, 0, none⟩), .int .i64 x, .agg #[.int .i64 k, .slice a b.length cap], .bool true, .bool false, .agg #[.int .i64 k, .slice a b.length cap], .func (.func gf) #[] #[pt cb], .int .i64 x, undef, undef, undef, undef, undef], defers := [] }) ?assign ?body ?done ?stop
  case assign =>
    intro l x W K hK
    gi_wp2
    exact hK
  case body =>
    rintro l pre x rest W hx ⟨u, BG, hown, F⟩ hE
    have hpl : pre.length + (rest.length + 1) = xs.length := by rw [hx]; simp
    have hgW := BG.lt
    have BX := Blk.new W 3 #[.int .i64 x]
    have F1 : Fr (fun _ => False) W (W.alloc (.cells #[.int .i64 x] 3)) := (Fr.refl W).alloc _
    have hsrc : Ints (W.alloc (.cells #[.int .i64 x] 3)) (.slice (some ⟨W.heap.size, 0, none⟩) 1 1) [x] := Vals.of_block BX (by unfold maxLen; simp)
    obtain ⟨u', W2, hrun, hown2, F2, hb2⟩ := append_ints (ownsRow_fr hown F1 (fun _ _ h => h)) (some ⟨W.heap.size, 0, none⟩) 1 1 [x] hsrc (by omega) (by rw [HE.out]; have := F1.size; omega)
    obtain ⟨a', m', c', rfl, rfl⟩ := own_shape hown2
    have hug : ∀ j, u.ownBlock = some j → E + 2 ≤ j ∧ j < W.heap.size := (Vals.of_own hown).2
    have BG2 := (BG.fr F1 (fun h => h)).fr F2 (fun e => by have := (hug _ e).1; have := HE.out; omega)
    have hug2 : ∀ j, (Value.slice a' (pre.length + 1) c').ownBlock = some j → E + 2 ≤ j := fun j hj => ((Vals.of_own hown2).2 j hj).1
    have G2 : Fr (fun k => E + 2 ≤ k) W W2 := (F1.mono (fun _ _ h => h.elim)).trans (F2.mono (fun j _ e => (hug j e).1))
    have t0 := BG.cell 0
    have t2 := BG2.cell 0
    have f2 := BG2.frozen 0
    have hal := alloc_old
    simp at t0 t2
    have HRUN := Lib.hid hrun
    have HOWN2 := Lib.hid hown2
    have HUG2 := Lib.hid hug2
    clear hrun hown2 hug2 hug HIT hE0 BX hsrc F1 F2
    gi_wp2_with (gi_at_builtin; refine wpListIn_append_run (by rfl) (.tmp 12) (.tmp 14) 26 (by rfl) _ W2 (by exact HRUN.out) ?_)
    have F5 : Fr (fun k => k = g) W2 (W2.setCell ⟨g, 0, none⟩ (.slice a' (pre.length + 1) c')) := Fr.setCell (S := fun k => k = g) (p := ⟨g, 0, none⟩) (Fr.refl W2) (fun _ => rfl) _
    have B5 := BG2.set 0 (.slice a' (pre.length + 1) c')
    simp at B5
    have hEe := HE.out
    have hZe := HZ.out
    refine ⟨(G2.mono (fun j _ e => ⟨by omega, by omega, by omega, by omega⟩)).trans (F5.mono (fun j _ e => ⟨by omega, by omega, by omega, by omega⟩)), _, B5, ?_, (F.trans' G2 (fun i hi e => by omega)).trans' F5 (fun i hi e => by omega)⟩
    rw [List.length_append]
    exact ownsRow_fr HOWN2.out F5 (fun j hj e => by have := HUG2.out j hj; omega)
  case done =>
    rintro D W hD ⟨u, BG, hown, F⟩ hK
    have hEe := HE.out
    have F5 : Fr (fun k => k = D) W (W.putObj D (.deferred none)) := Fr.putObj (S := fun k => k = D) (Fr.refl _) D (fun _ => rfl) _
    have t0 := BG.cell 0
    simp at t0
    have hown5 := own_le (ownsRow_fr hown F5 (fun j hj e => by have := ((Vals.of_own hown).2 j hj).1; omega)) (base' := w.heap.size) (by have := HZ.out; omega)
    have HO5 := Lib.hid hown5
    have HF5 := Lib.hid (F.trans' F5 (fun i hi e => by have := HZ.out; omega))
    have HE2 := Lib.hid hEe
    clear hown hown5 HIT hE0 hEe F F5
    gi_wp2
    refine ⟨by simp, .inl ⟨_, _, rfl, run_takeDeferred hK, ?_⟩⟩
    exact ⟨.tuple #[u, .int .i64 0], by simp [results, Tryz.results169, go_sem], ⟨u, rfl, HO5.out⟩, HF5.out⟩
  case stop =>
    rintro D c pre W hD hpre h hK
    exact h.elim
end Go.Proofs.YthjcoolefboodaaGreatDoor

namespace Go.Q
open Go Go.RowKit
theorem enc_cells {n : Nat} (h : okSign n) : Lib.runeCells (n : Int) = Lib.byteCells (enc n) := by
  obtain ⟨h1, h2⟩ := h
  unfold Lib.runeCells enc Lib.byteCells
  split
  · rw [Lib.encodeRuneZ_one (by omega) (by omega)]
    simp only [List.map_cons, List.map_nil, u8 n (by omega)]
  split
  · rw [Lib.encodeRuneZ_two (by omega) (by omega)]
    simp only [List.map_cons, List.map_nil, u8 (192 + n / 64) (by omega), u8 (128 + n % 64) (by omega)]
    rfl
  split
  · rw [Lib.encodeRuneZ_three (by omega)]
    simp only [List.map_cons, List.map_nil, u8 (224 + n / 4096) (by omega), u8 (128 + n / 64 % 64) (by omega), u8 (128 + n % 64) (by omega)]
    rfl
  · rw [Lib.encodeRuneZ_four (by omega) (by omega)]
    simp only [List.map_cons, List.map_nil, u8 (240 + n / 262144) (by omega), u8 (128 + n / 4096 % 64) (by omega), u8 (128 + n / 64 % 64) (by omega), u8 (128 + n % 64) (by omega)]
    rfl
end Go.Q
namespace Go.Proofs.YthjcoolefboodaaGreatDoor
open Go Go.RowKit Go.Q
def PutOut (w w' : World) (base : Nat) (v : Value) (n : Nat) (xs l : List UInt8) (e : Ending) : Prop :=
  ∃ a c, e = .returned (.slice a (n + l.length) c) ∧ w'.ownsRow base 5 1 (.slice a (n + l.length) c) (n + l.length) (Lib.byteCells (xs ++ l)) ∧ Fr (fun k => v.ownBlock = some k) w w'
set_option maxRecDepth 20000 in
set_option maxHeartbeats 1000000 in
theorem putText_any {w : World} {base n : Nat} {v : Value} {xs : List UInt8} (k : Int) (m : Nat) (hown : w.ownsRow base 5 1 v n (Lib.byteCells xs)) (hm : mayS k m = true) (hk : Go.Q.kindOk k = true) (hn : n ≤ 1099511627776) (hb : base ≤ w.heap.size) :
    Calls Tryz.prog 203 #[v, .int .i64 k, .int .i64 m] w fun e w' => PutOut w w' base v n xs (putS1 k m) e := by
  have hk' : k = 12 ∨ k = 19 ∨ k = 20 ∨ k = 22 ∨ k = 26 ∨ k = 30 := by simpa [Go.Q.kindOk] using hk
  by_cases h12 : k = 12
  · subst h12
    have hs : okSign m := by
      simp [mayS, surr] at hm
      unfold okSign
      omega
    have hp : putS1 12 m = enc m := rfl
    rw [hp]
    have hw : IntKind.i32.wrap (m : Int) = (m : Int) := by unfold okSign at hs; simp [IntKind.wrap, IntKind.signed, IntKind.bits]; omega
    have H := Lib.hid (Go.Proofs.Tryz.utf8_AppendRune_plain base v n (Lib.byteCells xs) (m : Int) (by omega) (by unfold okSign at hs; omega) w hown (by omega) hb)
    have hl := byteCells_len (enc m)
    rw [enc_cells hs, ← byteCells_append, hl] at H
    clear hown hs hm hk hk' hp hl
    go_enter Tryz.func203, Tryz.ntmps203
    go_wp2_with fail
    refine H.out.mono ?_
    rintro e w' ⟨v', rfl, h1, o, h2⟩
    obtain ⟨a, m', c, rfl, rfl⟩ := own_shape h1
    go_wp2_with fail
    go_ret
    refine ⟨a, c, rfl, h1, ?_⟩
    have f := Fr.of_grown h2
    exact ((Fr.refl (S := fun k => v.ownBlock = some k) w).alloc o).trans f
  · have q1 : (k == 12) = false := beq_eq_false_iff_ne.2 h12
    by_cases h30 : k = 30
    · subst h30
      have hb2 : m < 65536 := by simp [mayS, surr] at hm; omega
      obtain ⟨y1, hy1⟩ : ∃ y, y = m / 256 := ⟨_, rfl⟩
      obtain ⟨y2, hy2⟩ : ∃ y, y = m % 256 := ⟨_, rfl⟩
      have hw1 : IntKind.u8.wrap ((m : Int) / 256) = (y1 : Int) := by rw [hy1]; simp [IntKind.wrap, IntKind.signed, IntKind.bits]; omega
      have hw2 : IntKind.u8.wrap (m : Int) = (y2 : Int) := by rw [hy2]; simp [IntKind.wrap, IntKind.signed, IntKind.bits]
      have hp : putS1 30 m = [UInt8.ofNat y1, UInt8.ofNat y2] := by rw [hy1, hy2]; rfl
      rw [hp]
      have BX := Blk.new w 5 #[.int .u8 y1, .int .u8 y2]
      have F1 : Fr (fun _ => False) w (w.alloc (.cells #[.int .u8 y1, .int .u8 y2] 5)) := (Fr.refl w).alloc _
      have hsrc : Bytes (w.alloc (.cells #[.int .u8 y1, .int .u8 y2] 5)) (.slice (some ⟨w.heap.size, 0, none⟩) 2 2) [UInt8.ofNat y1, UInt8.ofNat y2] := by
        have h := Vals.of_block BX (by unfold maxLen; simp)
        have e : Lib.byteCells [UInt8.ofNat y1, UInt8.ofNat y2] = [.int .u8 y1, .int .u8 y2] := by simp only [Lib.byteCells, List.map_cons, List.map_nil, u8 y1 (by omega), u8 y2 (by omega)]
        show Vals _ _ (Lib.byteCells [UInt8.ofNat y1, UInt8.ofNat y2])
        rw [e]
        exact h
      obtain ⟨v', w2, hrun, h1, F2, _⟩ := append_bytes (ownsRow_fr hown F1 (fun _ _ h => h)) (some ⟨w.heap.size, 0, none⟩) 2 2 [UInt8.ofNat y1, UInt8.ofNat y2] hsrc (by omega) (Nat.le_trans hb F1.size)
      obtain ⟨a, m', c, rfl, rfl⟩ := own_shape h1
      have HRUN := Lib.hid hrun
      have HOWN := Lib.hid h1
      have HF := Lib.hid ((F1.mono (T := fun k => v.ownBlock = some k) (fun _ _ h => h.elim)).trans F2)
      clear hrun h1 F1 F2 BX hsrc hp hm hk hk' hown hy1 hy2
      go_enter Tryz.func203, Tryz.ntmps203
      go_wp2_with (at_builtin; refine wpList_append_run (by rfl) (.tmp 16) (.tmp 22) 22 (by rfl) _ w2 (by exact HRUN.out) ?_)
      go_ret
      exact ⟨a, c, rfl, HOWN.out, HF.out⟩
    · have q2 : (k == 30) = false := beq_eq_false_iff_ne.2 h30
      have hb : m < 256 := by
        rcases hk' with r | r | r | r | r | r <;> subst r <;> simp [mayS] at hm <;> omega
      have hw : IntKind.u8.wrap (m : Int) = (m : Int) := by simp [IntKind.wrap, IntKind.signed, IntKind.bits]; omega
      have hp : putS1 k m = [UInt8.ofNat m] := by unfold putS1; rw [if_neg h12, if_neg h30]; rfl
      rw [hp]
      have BX := Blk.new w 5 #[.int .u8 m]
      have F1 : Fr (fun _ => False) w (w.alloc (.cells #[.int .u8 m] 5)) := (Fr.refl w).alloc _
      have hsrc : Bytes (w.alloc (.cells #[.int .u8 m] 5)) (.slice (some ⟨w.heap.size, 0, none⟩) 1 1) [UInt8.ofNat m] := by
        have h := Vals.of_block BX (by unfold maxLen; simp)
        have e : Lib.byteCells [UInt8.ofNat m] = [.int .u8 m] := by simp only [Lib.byteCells, List.map_cons, List.map_nil, u8 m hb]
        show Vals _ _ (Lib.byteCells [UInt8.ofNat m])
        rw [e]
        exact h
      obtain ⟨v', w2, hrun, h1, F2, _⟩ := append_bytes (ownsRow_fr hown F1 (fun _ _ h => h)) (some ⟨w.heap.size, 0, none⟩) 1 1 [UInt8.ofNat m] hsrc (by omega) (Nat.le_trans ‹base ≤ w.heap.size› F1.size)
      obtain ⟨a, m', c, rfl, rfl⟩ := own_shape h1
      have HRUN := Lib.hid hrun
      have HOWN := Lib.hid h1
      have HF := Lib.hid ((F1.mono (T := fun k => v.ownBlock = some k) (fun _ _ h => h.elim)).trans F2)
      clear hrun h1 F1 F2 BX hsrc hp hm hk hk' hown
      go_enter Tryz.func203, Tryz.ntmps203
      go_wp2_with (at_builtin; refine wpList_append_run (by rfl) (.tmp 24) (.tmp 27) 22 (by rfl) _ w2 (by exact HRUN.out) ?_)
      go_ret
      exact ⟨a, c, rfl, HOWN.out, HF.out⟩
end Go.Proofs.YthjcoolefboodaaGreatDoor

namespace Go.Q
open Go Go.RowKit
theorem enc_le (n : Nat) : (enc n).length ≤ 4 := by unfold enc; (repeat' split) <;> simp
theorem putS1_le (k n : Int) : (putS1 k n).length ≤ 4 := by
  unfold putS1
  split
  · exact enc_le _
  · split <;> simp
theorem ofS_take {k : Int} {l : List Int} {j : Nat} {n : Int} (h : l[j]? = some n) : ofS k (l.take (j + 1)) = ofS k (l.take j) ++ putS1 k n := by
  rw [List.take_add_one, h]
  simp [ofS]
theorem ofS_le (k : Int) (l : List Int) : (ofS k l).length ≤ 4 * l.length := by
  induction l with
  | nil => simp [ofS]
  | cons n l ih =>
    have := putS1_le k n
    simp only [ofS, List.flatMap_cons, List.length_append, List.length_cons] at ih ⊢
    omega
end Go.Q
namespace Go.Proofs.YthjcoolefboodaaGreatDoor
open Go Go.RowKit Go.Q
set_option maxRecDepth 20000 in
set_option maxHeartbeats 2000000 in
theorem ofText_any (k : Int) (v : Value) (l : List Int) (w : World) (h : Ints w v l) (hk : Go.Q.kindOk k = true) (hm : ∀ n ∈ l, mayS k n = true) (hl : l.length ≤ 100000000) :
    Calls Tryz.prog 170 #[.int .i64 k, v] w fun e w' => (∃ u, e = .returned (.tuple #[.agg #[.int .i64 k, u], .int .i64 0]) ∧ w'.ownsRow w.heap.size 5 1 u (ofS k l).length (Lib.byteCells (ofS k l))) ∧ Fr (fun _ => False) w w' := by
  have H := Lib.hid h
  have HM := Lib.hid hm
  obtain ⟨a, cap, rfl, -⟩ := Ints.form h
  obtain ⟨z, hz⟩ : ∃ z, z = w.heap.size := ⟨_, rfl⟩
  have F0 : Fr (fun _ => False) w (w.alloc (.cells #[.int .i64 0, .slice none 0 0] 215)) := (Fr.refl w).alloc _
  have B0 := Blk.new w 215 #[.int .i64 0, .slice none 0 0]
  rw [← hz] at B0
  have HZ := Lib.hid hz
  have HF0 := Lib.hid F0
  have HKN := Lib.hid (known_any k (w.alloc (.cells #[.int .i64 0, .slice none 0 0] 215)))
  rw [hk] at HKN
  have HK := Lib.hid hk
  clear h F0 hz hk hm
  go_enter Tryz.func170, Tryz.ntmps170
  go_upto_region 1 with fail
  rw [← HZ.out]
  generalize (w.alloc (.cells #[.int .i64 0, .slice none 0 0] 215)) = w1 at *
  go_upto_region 4 with (first | (go_at_call 201; refine HKN.out.mono ?_; rintro e w2 ⟨rfl, F2⟩))
  obtain ⟨y, hy⟩ : ∃ y, y = w2.heap.size := ⟨_, rfl⟩
  have F3 : Fr (fun _ => False) w2 (w2.alloc (.cells #[.int .i64 k, .slice none 0 0] 215)) := (Fr.refl w2).alloc _
  have BZ := (B0.fr F2 (fun h => h)).fr F3 (fun h => h)
  have BY := Blk.new w2 215 #[.int .i64 k, .slice none 0 0]
  have hzy : z < y := by have := (B0.fr F2 (fun h => h)).lt; omega
  have hs3 : y + 1 = (w2.alloc (.cells #[.int .i64 k, .slice none 0 0] 215)).heap.size := by rw [hy, World.size_alloc]
  have HF3 := Lib.hid ((HF0.out.trans F2).trans F3)
  rw [← hy] at BY ⊢
  clear HKN B0 HF0 F2 F3 hy
  generalize (w2.alloc (.cells #[.int .i64 k, .slice none 0 0] 215)) = w3 at *
  go_wp2_with fail
  go_loopg [17] l.length (fun g i wr => ∃ (j : Nat) (u : Value), g = l.length - j ∧ j ≤ l.length ∧ i = .int .i64 j ∧ Blk wr z 215 #[.int .i64 0, .slice none 0 0] ∧ Blk wr y 215 #[.int .i64 k, u] ∧ wr.ownsRow (y + 1) 5 1 u (ofS k (l.take j)).length (Lib.byteCells (ofS k (l.take j))) ∧ Fr (fun _ => False) w wr ∧ y + 1 ≤ wr.heap.size)
  case atStart => exact ⟨0, _, rfl, Nat.zero_le _, rfl, BZ, BY, ⟨rfl, .inl ⟨rfl, rfl⟩⟩, HF3.out, by omega⟩
  case round =>
    obtain ⟨j, u, hg, hj, rfl, BZ, BY, hown, F, hsz⟩ := hrel
    have HG := Lib.hid hg
    clear hg
    by_cases hjl : j < l.length
    · obtain ⟨a0, cap0, he, _, _, hx⟩ := Ints.form (H.out.old F)
      simp only [Value.slice.injEq, true_and] at he
      obtain ⟨rfl, rfl⟩ := he
      obtain ⟨b, off, rfl, hy⟩ := hx (by omega)
      obtain ⟨n, hn⟩ : ∃ n, l[j]? = some n := ⟨_, List.getElem?_eq_getElem hjl⟩
      have e1 := hy j n hn
      have hmn := HM.out n (List.mem_of_getElem? hn)
      have hn0 : 0 ≤ n := by
        have hk' : k = 12 ∨ k = 19 ∨ k = 20 ∨ k = 22 ∨ k = 26 ∨ k = 30 := by simpa [Go.Q.kindOk] using HK.out
        rcases hk' with r | r | r | r | r | r <;> subst r <;> simp [mayS] at hmn <;> omega
      obtain ⟨m, rfl⟩ : ∃ m : Nat, n = m := ⟨n.toNat, by omega⟩
      have hle := ofS_le k (l.take j)
      rw [List.length_take] at hle
      have hft := ofS_take (k := k) hn
      have HFT := Lib.hid hft
      have y0 := BY.cell 0
      have y1 := BY.cell 1
      have g1 := BY.frozen 1
      simp at y0 y1
      have HP := Lib.hid (putText_any k m hown hmn HK.out (by omega) (by omega))
      have HMY := Lib.hid (may_any k m wr)
      rw [hmn] at HMY
      have r1 : (0 : Int) ≤ (j : Int) := by omega
      have r2 : (j : Int) < (l.length : Int) := by omega
      have huy : ∀ q, u.ownBlock = some q → y + 1 ≤ q := fun q hq => ((Vals.of_own hown).2 q hq).1
      have HUY := Lib.hid huy
      clear hx hy hn hmn hft hown huy
      go_wp2_with (first | (go_at_call 202; refine HMY.out.mono ?_; rintro e w5 ⟨rfl, rfl⟩))
      refine HP.out.mono ?_
      rintro e w5 ⟨a5, c5, rfl, h5, F5⟩
      have BY5 := BY.fr F5 (fun e => by have := HUY.out _ e; omega)
      have BZ5 := BZ.fr F5 (fun e => by have := HUY.out _ e; omega)
      have g5 := BY5.frozen 1
      have y5 := BY5.cell 1
      simp at y5
      generalize (ofS k (l.take j)).length + (putS1 k m).length = N5 at *
      have F6 : Fr (fun q => q = y) w5 (w5.setCell ⟨y, 1, none⟩ (.slice a5 N5 c5)) := Fr.setCell (S := fun q => q = y) (p := ⟨y, 1, none⟩) (Fr.refl w5) (fun _ => rfl) _
      have BY6 := BY5.set 1 (.slice a5 N5 c5)
      simp at BY6
      have BZ6 := BZ5.fr F6 (by omega)
      have h6 := ownsRow_fr h5 F6 (fun q hq e => by have := ((Vals.of_own h5).2 q hq).1; omega)
      have G6 := (F.trans' F5 (fun i hi e => by have := HUY.out _ e; have := HZ.out; omega)).trans' F6 (fun i hi e => by have := HZ.out; omega)
      have hs6 := F6.size
      have hs5 := F5.size
      have hlen : N5 = (ofS k (l.take (j + 1))).length := by
        have := h6.1
        rw [byteCells_len, Nat.mul_one] at this
        rw [HFT.out, ← this]
      have HLEN := Lib.hid hlen
      have HG6 := Lib.hid G6
      have HH6 := Lib.hid h6
      clear hlen G6 h6 h5 F5 F6 F HP HMY
      go_wp2_with fail
      go_roundg (l.length - (j + 1))
      case measure => rw [HG.out]; omega
      case rel => exact ⟨j + 1, _, rfl, by omega, by go_num, BZ6, BY6, by rw [HFT.out, ← HFT.out, ← HLEN.out]; rw [HFT.out]; exact HH6.out, HG6.out, by omega⟩
    · have hall : l.take j = l := List.take_of_length_le (by omega)
      rw [hall] at hown
      have y0 := BY.cell 0
      have y1 := BY.cell 1
      have z0 := BZ.frozen 0
      have z1 := BZ.frozen 1
      have zc0 := BZ.cell 0
      have zc1 := BZ.cell 1
      simp at y0 y1 zc0 zc1
      obtain ⟨BZ6, F6⟩ := set2 BZ (.int .i64 k) u
      have HO6 := Lib.hid (own_le (ownsRow_fr hown F6 (fun q hq e => by have := ((Vals.of_own hown).2 q hq).1; omega)) (base' := w.heap.size) (by have := HZ.out; omega))
      have HF6 := Lib.hid (F.trans' F6 (fun i hi e => by have := HZ.out; omega))
      obtain ⟨au, mu, cu, rfl, -⟩ := own_shape hown
      clear hown F F6 hall
      go_wp2_with fail
      have n0 := BZ6.cell 0
      have n1 := BZ6.cell 1
      simp at n0 n1
      exact bodyPost_ret (v := .tuple #[.agg #[.int .i64 k, .slice au mu cu], .int .i64 0]) (by simp [results, Tryz.results170, go_sem, n0, n1]) rfl ⟨⟨_, rfl, HO6.out⟩, HF6.out⟩
end Go.Proofs.YthjcoolefboodaaGreatDoor

namespace Go.Proofs.YthjcoolefboodaaGreatDoor
open Go Go.RowKit Go.Q
theorem Parts.one {w : World} {u1 : Value} {l1 : List UInt8} (h1 : Bytes w u1 l1) : Parts (w.alloc (.cells #[u1] 22)) (.slice (some ⟨w.heap.size, 0, none⟩) 1 1) [l1] := by
  have F : Fr (fun _ => False) w (w.alloc (.cells #[u1] 22)) := (Fr.refl w).alloc _
  refine ⟨[u1], Vals.of_block (Blk.new w 22 #[u1]) (by unfold maxLen; simp), rfl, fun i u l hu hl => ?_⟩
  match i, hu, hl with
  | 0, hu, hl =>
    simp only [List.getElem?_cons_zero, Option.some.injEq] at hu hl
    subst hu; subst hl
    exact h1.old F
  | i + 1, hu, hl => simp at hu
end Go.Proofs.YthjcoolefboodaaGreatDoor

namespace Go.Q
open Go Go.RowKit
def textReadS (l : List UInt8) : Except Int (Int × List UInt8 × Nat) :=
  match readS l with
  | .error e => .error e
  | .ok (t, n, k) => if t.cls ≠ 0 ∨ t.made = true ∨ kindOk t.num = false then .error 4 else if l.length - k < n then .error 3 else
    if rightS t.num ((l.drop k).take n) = true then .ok (t.num, (l.drop k).take n, k + n) else .error 6
end Go.Q
namespace Go.Proofs.YthjcoolefboodaaGreatDoor
open Go Go.RowKit Go.Q
def TextOut (w w' : World) (c : Nat) (K : Nat → Prop) (bs : List UInt8) (p : Nat) (e : Ending) : Prop :=
  match textReadS (bs.drop p) with
  | .error x => e = .returned (.tuple #[.agg #[.int .i64 0, .slice none 0 0], .int .i64 x]) ∧ x ≠ 0 ∧ CurAt w' c K bs p
  | .ok (k, b, n) => (∃ u, e = .returned (.tuple #[.agg #[.int .i64 k, u], .int .i64 0]) ∧ w'.ownsRow w.heap.size 5 1 u b.length (Lib.byteCells b)) ∧ CurAt w' c K bs (p + n)
set_option maxRecDepth 20000 in
theorem textFail_any {w : World} {c b2 b6 : Nat} {K : Nat → Prop} {bs : List UInt8} {p q : Nat} (x : Int) (h : CurAt w c K bs q) (hpq : p ≤ q) (B2 : Blk w b2 212 #[pt c]) (B6 : Blk w b6 3 #[.int .i64 p]) :
    Calls Tryz.prog 197 #[.int .i64 x, pt b2, pt b6] w fun e w' => e = .returned (.tuple #[.agg #[.int .i64 0, .slice none 0 0], .int .i64 x]) ∧ CurAt w' c K bs p ∧ Fr (fun k => k = c) w w' := by
  have hlc := h.lt
  obtain ⟨z, hz⟩ : ∃ z, z = w.heap.size := ⟨_, rfl⟩
  have F0 : Fr (fun _ => False) w (w.alloc (.cells #[.int .i64 0, .slice none 0 0] 215)) := (Fr.refl w).alloc _
  have BZ := Blk.new w 215 #[.int .i64 0, .slice none 0 0]
  rw [← hz] at BZ
  have H := Lib.hid (h.step (K' := fun k => K k ∨ w.heap.size ≤ k) F0 (fun _ _ h => h.elim) (fun _ h => h))
  have e2 := (B2.fr F0 (fun h => h)).cell 0
  have e6 := (B6.fr F0 (fun h => h)).cell 0
  simp at e2 e6
  have HZ := Lib.hid hz
  have HF := Lib.hid F0
  have hzc : z ≠ c := by omega
  clear h hz F0 B2 B6
  go_enter Tryz.func197, Tryz.ntmps197
  go_upto_region 1 with fail
  rw [← HZ.out]
  generalize (w.alloc (.cells #[.int .i64 0, .slice none 0 0] 215)) = w1 at *
  go_wp2_with fail
  refine (back_any H.out p hpq).mono ?_
  rintro e w2 ⟨rfl, C2, F2⟩
  have BZ2 := BZ.fr F2 hzc
  have z0 := BZ2.cell 0
  have z1 := BZ2.cell 1
  have f0 := BZ2.frozen 0
  have f1 := BZ2.frozen 1
  simp at z0 z1
  obtain ⟨BZ3, F3⟩ := set2 BZ2 (.int .i64 0) (.slice none 0 0)
  have hlc2 := C2.lt
  have HC3 := Lib.hid (C2.step (K' := K) F3 (fun k hk e => .inr (by have := HZ.out; omega)) (fun _ h => .inl (.inl h)))
  have HF3 := Lib.hid (((HF.out.mono (T := fun k => k = c) (fun _ _ h => h.elim)).trans F2).trans' F3 (fun i hi e => by have := HZ.out; omega))
  have n0 := BZ3.cell 0
  have n1 := BZ3.cell 1
  simp at n0 n1
  clear C2 F2 F3 BZ3 BZ2 BZ HF H
  go_wp2_with fail
  exact bodyPost_ret (v := .tuple #[.agg #[.int .i64 0, .slice none 0 0], .int .i64 x]) (by simp [results, Tryz.results197, go_sem, n0, n1]) rfl ⟨rfl, HC3.out, HF3.out⟩
set_option maxRecDepth 20000 in
set_option maxHeartbeats 2000000 in
theorem textRead_any {w : World} {c : Nat} {K : Nat → Prop} {bs : List UInt8} {p : Nat} (h : CurAt w c K bs p) (hT : Tabs w) (hK : ¬ (2 = c ∨ 3 = c)) :
    Calls Tryz.prog 168 #[pt c, .slice none 0 0] w fun e w' => TextOut w w' c K bs p e ∧ Fr (fun k => k = c) w w' := by
  have hlc := h.lt
  have hle := h.le
  have hsm := h.small
  obtain ⟨z, hz⟩ : ∃ z, z = w.heap.size := ⟨_, rfl⟩
  have F0 : Fr (fun _ => False) w (((w.alloc (.cells #[pt c] 212)).alloc (.cells #[.int .i64 0, .slice none 0 0] 215)).alloc (.cells #[.int .i64 12, .int .i64 19, .int .i64 20, .int .i64 22, .int .i64 26, .int .i64 30] 3)) := (((Fr.refl w).alloc _).alloc _).alloc _
  have BP := ((Blk.new w 212 #[pt c]).alloc (.cells #[.int .i64 0, .slice none 0 0] 215)).alloc (.cells #[.int .i64 12, .int .i64 19, .int .i64 20, .int .i64 22, .int .i64 26, .int .i64 30] 3)
  have BZ := (Blk.new (w.alloc (.cells #[pt c] 212)) 215 #[.int .i64 0, .slice none 0 0]).alloc (.cells #[.int .i64 12, .int .i64 19, .int .i64 20, .int .i64 22, .int .i64 26, .int .i64 30] 3)
  have BY := Blk.new ((w.alloc (.cells #[pt c] 212)).alloc (.cells #[.int .i64 0, .slice none 0 0] 215)) 3 #[.int .i64 12, .int .i64 19, .int .i64 20, .int .i64 22, .int .i64 26, .int .i64 30]
  have H := Lib.hid (h.step (K' := fun k => K k ∨ w.heap.size ≤ k) F0 (fun _ _ h => h.elim) (fun _ h => h))
  rw [World.size_alloc, World.size_alloc] at BY
  rw [World.size_alloc] at BZ
  rw [← hz] at BP BZ BY
  have HZ := Lib.hid hz
  have HF := Lib.hid (F0.mono (T := fun k => k = c) (fun _ _ h => h.elim))
  have HT := Lib.hid (hT.old F0)
  have hzc : c < z := by omega
  clear h hz F0 hT
  go_enter Tryz.func168, Tryz.ntmps168
  go_upto_region 3 with (first | (go_at_call 196; go_in))
  rw [← HZ.out]
  generalize (((w.alloc (.cells #[pt c] 212)).alloc (.cells #[.int .i64 0, .slice none 0 0] 215)).alloc (.cells #[.int .i64 12, .int .i64 19, .int .i64 20, .int .i64 22, .int .i64 26, .int .i64 30] 3)) = w0 at *
  have p0 := BP.cell 0
  simp at p0
  have hy := BY.lt
  go_wp2_with fail
  refine (at_any H.out).mono ?_
  rintro e w' ⟨rfl, rfl⟩
  go_upto_region 4 with fail
  obtain ⟨t, ht⟩ : ∃ t, t = w0.heap.size := ⟨_, rfl⟩
  have BT := Blk.new w0 3 #[.int .i64 p]
  have F1 : Fr (fun _ => False) w0 (w0.alloc (.cells #[.int .i64 p] 3)) := (Fr.refl w0).alloc _
  have BP1 := BP.fr F1 (fun h => h)
  have BZ1 := BZ.fr F1 (fun h => h)
  have BY1 := BY.fr F1 (fun h => h)
  have HT1 := Lib.hid (HT.out.old F1)
  have H1 := Lib.hid (H.out.old F1)
  have HF1 := Lib.hid (HF.out.trans (F1.mono (fun _ _ h => h.elim)))
  rw [← ht] at BT ⊢
  have hzt : z + 3 ≤ t := by omega
  clear p0 BP BZ BY HT H HF F1 ht
  generalize (w0.alloc (.cells #[.int .i64 p] 3)) = w1 at *
  have p0 := BP1.cell 0
  simp at p0
  go_wp2_with fail
  refine (headRead_any H1.out).mono ?_
  rintro e w2 ⟨⟨tg, n, x, rfl, hout⟩, C2, F2⟩
  obtain ⟨tc, tn, tm⟩ := tg
  rw [show tagV ⟨tc, tn, tm⟩ = .agg #[.int .i64 tc, .int .i64 tn, .bool tm] from rfl]
  have ht1 := BT.lt
  have h1c := H1.out.lt
  have BP2 := BP1.fr F2 (by omega)
  have BZ2 := BZ1.fr F2 (by omega)
  have BY2 := BY1.fr F2 (by omega)
  have BT2 := BT.fr F2 (by omega)
  go_upto_region 5 with fail
  obtain ⟨g, hg⟩ : ∃ g, g = w2.heap.size := ⟨_, rfl⟩
  have hgt : t < g := by have := BT2.lt; omega
  have BG := Blk.new w2 92 #[.int .i64 tc, .int .i64 tn, .bool tm]
  have F3 : Fr (fun _ => False) w2 (w2.alloc (.cells #[.int .i64 tc, .int .i64 tn, .bool tm] 92)) := (Fr.refl w2).alloc _
  replace BP2 := BP2.fr F3 (fun h => h)
  replace BZ2 := BZ2.fr F3 (fun h => h)
  replace BY2 := BY2.fr F3 (fun h => h)
  replace BT2 := BT2.fr F3 (fun h => h)
  have HC3 := Lib.hid (C2.old F3)
  have HF3 := Lib.hid ((HF1.out.trans F2).trans (F3.mono (fun _ _ h => h.elim)))
  have HT3 := Lib.hid ((HT1.out.fr F2 (fun e => hK (.inl e)) (fun e => hK (.inr e))).old F3)
  have HO := Lib.hid hout
  rw [← hg] at BG ⊢
  clear p0 BP1 BZ1 BY1 BT HT1 H1 HF1 F2 F3 C2 hg hout ht1 h1c
  generalize (w2.alloc (.cells #[.int .i64 tc, .int .i64 tn, .bool tm] 92)) = w3 at *
  have z0 := BZ2.cell 0
  have z1 := BZ2.cell 1
  have f0 := BZ2.frozen 0
  have f1 := BZ2.frozen 1
  have q0 := BP2.cell 0
  have q1 := BT2.cell 0
  simp at z0 z1 q0 q1
  by_cases hx : x = 0
  · subst hx
    obtain ⟨k, hr⟩ : ∃ k, readS (bs.drop p) = .ok (⟨tc, tn, tm⟩, n, k) := by
      have ho := HO.out
      cases hr : readS (bs.drop p) with
      | error e => rw [hr] at ho; exact absurd ho.symm (readS_err hr)
      | ok vk => obtain ⟨v, m, k⟩ := vk; rw [hr] at ho; exact ⟨k, by rw [ho.1, ho.2.1]⟩
    have hc3 := HC3.out
    rw [hr] at hc3
    have HC4 := Lib.hid (show CurAt w3 c (fun k => K k ∨ w.heap.size ≤ k) bs (p + k) from hc3)
    have hpk : p + k ≤ bs.length := HC4.out.le
    have hts : textReadS (bs.drop p) = if tc ≠ 0 ∨ tm = true ∨ Go.Q.kindOk tn = false then .error 4 else if (bs.drop p).length - k < n then .error 3 else if rightS tn (((bs.drop p).drop k).take n) = true then .ok (tn, ((bs.drop p).drop k).take n, k + n) else .error 6 := by unfold textReadS; rw [hr]
    rw [List.length_drop, List.drop_drop] at hts
    have HTS := Lib.hid hts
    have HTC := Lib.hid (show ∀ W, Fr (fun k => k = c) w W → Blk W (z + 1) 215 #[.int .i64 0, .slice none 0 0] → ∀ er : Int, textReadS (bs.drop p) = .error er → er ≠ 0 → CurAt W c (fun k => K k ∨ w.heap.size ≤ k) bs p → ∃ W', W' = (W.setCell ⟨z + 1, 0, none⟩ (.int .i64 0)).setCell ⟨z + 1, 1, none⟩ (.slice none 0 0) ∧ Blk W' (z + 1) 215 #[.int .i64 0, .slice none 0 0] ∧ TextOut w W' c K bs p (.returned (.tuple #[.agg #[.int .i64 0, .slice none 0 0], .int .i64 er])) ∧ Fr (fun k => k = c) w W' from fun W FW BW er hs her hcw => by
      obtain ⟨BZ3, F4⟩ := set2 BW (.int .i64 0) (.slice none 0 0)
      refine ⟨_, rfl, BZ3, ?_, FW.trans' F4 (fun i hi e => by have := HZ.out; omega)⟩
      unfold TextOut
      rw [hs]
      exact ⟨rfl, her, hcw.step F4 (fun k hk e => .inr (by have := HZ.out; omega)) (fun _ h => .inl (.inl h))⟩)
    clear hr hc3 hts HC3 HO
    have HFAIL := Lib.hid (textFail_any (p := p) 4 HC4.out (by omega) BP2 BT2)
    have hcn := Go.Proofs.Tryz.slices_Contains_int (z + 1 + 1) 0 6 6 [12, 19, 20, 22, 26, 30] tn w3 (by simp) (by omega) (fun j hj => by
      rw [Nat.zero_add, BY2.cell]
      match j, hj with
      | 0, _ => rfl
      | 1, _ => rfl
      | 2, _ => rfl
      | 3, _ => rfl
      | 4, _ => rfl
      | 5, _ => rfl
      | j + 6, hj => simp at hj; omega)
    rw [show ([12, 19, 20, 22, 26, 30] : List Int).take 6 = [12, 19, 20, 22, 26, 30] from rfl, kind_contains] at hcn
    have HCN := Lib.hid (show Calls Tryz.prog 198 #[.slice (some ⟨z + 1 + 1, 0, none⟩) 6 6, .int .i64 tn] w3 fun e w' => e = .returned (.bool (Go.Q.kindOk tn)) ∧ w3 = w' from hcn.mono (fun _ _ h => ⟨h.1, h.2.symm⟩))
    clear hcn
    have g0 := BG.cell 0
    have g1 := BG.cell 1
    have g2 := BG.cell 2
    simp at g0 g1 g2
    by_cases hb : tc ≠ 0 ∨ tm = true ∨ Go.Q.kindOk tn = false
    · have hs : textReadS (bs.drop p) = .error 4 := by rw [HTS.out, if_pos hb]
      have HS := Lib.hid hs
      clear hs
      have hcase : ((tc == 0) = false ∧ (tc != 0) = true) ∨ (tc = 0 ∧ tm = true) ∨ (tc = 0 ∧ tm = false ∧ Go.Q.kindOk tn = false) := by
        by_cases h0 : tc = 0
        · cases tm with
          | true => exact .inr (.inl ⟨h0, rfl⟩)
          | false => rcases hb with h | h | h
                     · exact absurd h0 h
                     · cases h
                     · exact .inr (.inr ⟨h0, rfl, h⟩)
        · exact .inl ⟨beq_eq_false_iff_ne.2 h0, by simpa using h0⟩
      clear hb
      rcases hcase with ⟨h, h'⟩ | ⟨rfl, rfl⟩ | ⟨rfl, rfl, hkn⟩
      all_goals
        go_wp2_with (first | (go_at_call 198; refine HCN.out.mono ?_; rintro e w' ⟨rfl, rfl⟩))
        refine HFAIL.out.mono ?_
        rintro e w5 ⟨rfl, C5, F5⟩
        have BZ5 := BZ2.fr F5 (by omega)
        obtain ⟨W', hW', BW', hout, FW'⟩ := HTC.out w5 (HF3.out.trans F5) BZ5 4 HS.out (by decide) C5
        have HOUT := Lib.hid hout
        have HFW := Lib.hid FW'
        have HWW := Lib.hid hW'
        have z0' := BZ5.cell 0
        have z1' := BZ5.cell 1
        have f0' := BZ5.frozen 0
        have f1' := BZ5.frozen 1
        simp at z0' z1'
        have n0 := BW'.cell 0
        have n1 := BW'.cell 1
        simp at n0 n1
        clear C5 F5 BZ5 hW' BW' hout FW'
        go_wp2_with fail
        rw [← HWW.out]
        refine bodyPost_ret (v := .tuple #[.agg #[.int .i64 0, .slice none 0 0], .int .i64 4]) (by simp [results, Tryz.results168, go_sem, n0, n1]) rfl ⟨HOUT.out, HFW.out⟩
    · have hb0 : tc = 0 ∧ tm = false ∧ Go.Q.kindOk tn = true := by
        refine ⟨Classical.byContradiction fun h => hb (.inl h), ?_, ?_⟩
        · cases tm with
          | true => exact absurd (.inr (.inl rfl)) hb
          | false => rfl
        · cases h : Go.Q.kindOk tn with
          | true => rfl
          | false => exact absurd (.inr (.inr h)) hb
      have hs1 := HTS.out
      rw [if_neg hb] at hs1
      obtain ⟨rfl, rfl, hkn⟩ := hb0
      clear hb
      by_cases hn : bs.length - (p + k) < n
      · rw [if_pos (by omega)] at hs1
        have HS := Lib.hid hs1
        have HTK := Lib.hid (take_end HC4.out n hn)
        clear hs1
        go_wp2_with (first | (go_at_call 198; refine HCN.out.mono ?_; rintro e w' ⟨rfl, rfl⟩))
        refine HTK.out.mono ?_
        rintro e w4 ⟨rfl, F4⟩
        have BP4 := BP2.fr F4 (fun h => h)
        have BT4 := BT2.fr F4 (fun h => h)
        have BZ4 := BZ2.fr F4 (fun h => h)
        have HFAIL3 := Lib.hid (textFail_any (p := p) 3 (HC4.out.old F4) (by omega) BP4 BT4)
        have HF4 := Lib.hid (HF3.out.trans (F4.mono (fun _ _ h => h.elim)))
        clear F4 BP4 BT4 BP2 BT2 BY2 HCN g0 g1 g2 z0 z1 f0 f1 q0 q1 BZ2
        go_wp2_with fail
        refine HFAIL3.out.mono ?_
        rintro e w5 ⟨rfl, C5, F5⟩
        have BZ5 := BZ4.fr F5 (by omega)
        obtain ⟨W', hW', BW', hout, FW'⟩ := HTC.out w5 (HF4.out.trans F5) BZ5 3 HS.out (by decide) C5
        have HOUT := Lib.hid hout
        have HFW := Lib.hid FW'
        have HWW := Lib.hid hW'
        have z0' := BZ5.cell 0
        have z1' := BZ5.cell 1
        have f0' := BZ5.frozen 0
        have f1' := BZ5.frozen 1
        simp at z0' z1'
        have n0 := BW'.cell 0
        have n1 := BW'.cell 1
        simp at n0 n1
        clear C5 F5 BZ5 hW' BW' hout FW'
        go_wp2_with fail
        rw [← HWW.out]
        refine bodyPost_ret (v := .tuple #[.agg #[.int .i64 0, .slice none 0 0], .int .i64 3]) (by simp [results, Tryz.results168, go_sem, n0, n1]) rfl ⟨HOUT.out, HFW.out⟩
      · rw [if_neg (by omega)] at hs1
        obtain ⟨b, hbb⟩ : ∃ b, b = (bs.drop (p + k)).take n := ⟨_, rfl⟩
        have hbl : b.length = n := by rw [hbb, List.length_take, List.length_drop]; omega
        rw [← hbb] at hs1
        have HS := Lib.hid hs1
        have HTK := take_ok HC4.out n (by omega)
        rw [← hbb] at HTK
        have HTK := Lib.hid HTK
        have hl3 := BG.lt
        clear hs1 hbb
        go_wp2_with (first | (go_at_call 198; refine HCN.out.mono ?_; rintro e w' ⟨rfl, rfl⟩))
        refine HTK.out.mono ?_
        rintro e w4 ⟨v4, rfl, ho4, C4, F4⟩
        have BP4 := BP2.fr F4 (by omega)
        have BT4 := BT2.fr F4 (by omega)
        have BZ4 := BZ2.fr F4 (by omega)
        have BG4 := BG.fr F4 (by omega)
        have HT4 := Lib.hid (HT3.out.fr F4 (fun e => hK (.inl e)) (fun e => hK (.inr e)))
        obtain ⟨a4, m4, c4, rfl, rfl⟩ := own_shape ho4
        have HF4 := Lib.hid (HF3.out.trans F4)
        have HO4 := Lib.hid ho4
        have HC5 := Lib.hid C4
        have hv4 := (Vals.of_own ho4).1
        clear HT3 HC4 F4 BP2 BT2 BY2 HCN g0 g1 g2 z0 z1 f0 f1 q0 q1 BZ2 BG C4 ho4 HTK
        have g1 := BG4.cell 1
        simp at g1
        go_upto_region 14 with fail
        obtain ⟨y, hy⟩ : ∃ y, y = w4.heap.size := ⟨_, rfl⟩
        have BX := Blk.new w4 215 #[.int .i64 tn, .slice a4 m4 c4]
        have F5 : Fr (fun _ => False) w4 (w4.alloc (.cells #[.int .i64 tn, .slice a4 m4 c4] 215)) := (Fr.refl w4).alloc _
        have hv5 := hv4.old F5
        have HR := Lib.hid (rightText_any tn _ b _ hv5 (HT4.out.old F5))
        have BP5 := BP4.fr F5 (fun h => h)
        have BT5 := BT4.fr F5 (fun h => h)
        have BZ5 := BZ4.fr F5 (fun h => h)
        have HC5' := Lib.hid (HC5.out.old F5)
        have HO5 := Lib.hid (ownsRow_fr HO4.out F5 (fun _ _ h => h))
        have HF5 := Lib.hid (HF4.out.trans (F5.mono (fun _ _ h => h.elim)))
        rw [← hy] at BX ⊢
        clear HC5 HO4 HF4 F5 BP4 BT4 BZ4 BG4 hv4 hv5 g1 hy HT4
        generalize (w4.alloc (.cells #[.int .i64 tn, .slice a4 m4 c4] 215)) = w5 at *
        have x0 := BX.cell 0
        have x1 := BX.cell 1
        simp at x0 x1
        cases hrt : rightS tn b with
        | false =>
          have hs1 := HS.out
          rw [hrt] at hs1
          simp only [Bool.false_eq_true, ↓reduceIte] at hs1
          rw [hrt] at HR
          have HS6 := Lib.hid hs1
          clear hs1 HS hrt
          go_wp2_with (first | (go_at_call 199; refine HR.out.mono ?_; rintro e w6 ⟨rfl, F6⟩))
          have HFAIL6 := Lib.hid (textFail_any (p := p) 6 (HC5'.out.old F6) (by omega) (BP5.fr F6 (fun h => h)) (BT5.fr F6 (fun h => h)))
          refine HFAIL6.out.mono ?_
          rintro e w7 ⟨rfl, C7, F7⟩
          have BZ7 := (BZ5.fr F6 (fun h => h)).fr F7 (by omega)
          obtain ⟨W', hW', BW', hout, FW'⟩ := HTC.out w7 ((HF5.out.trans (F6.mono (fun _ _ h => h.elim))).trans F7) BZ7 6 HS6.out (by decide) C7
          have HOUT := Lib.hid hout
          have HFW := Lib.hid FW'
          have HWW := Lib.hid hW'
          have z0' := BZ7.cell 0
          have z1' := BZ7.cell 1
          have f0' := BZ7.frozen 0
          have f1' := BZ7.frozen 1
          simp at z0' z1'
          have n0 := BW'.cell 0
          have n1 := BW'.cell 1
          simp at n0 n1
          clear C7 F7 BZ7 hW' BW' hout FW'
          go_wp2_with fail
          rw [← HWW.out]
          refine bodyPost_ret (v := .tuple #[.agg #[.int .i64 0, .slice none 0 0], .int .i64 6]) (by simp [results, Tryz.results168, go_sem, n0, n1]) rfl ⟨HOUT.out, HFW.out⟩
        | true =>
          have hs1 := HS.out
          rw [hrt] at hs1
          simp only [↓reduceIte] at hs1
          rw [hrt] at HR
          have HS6 := Lib.hid hs1
          clear hs1 HS hrt
          go_wp2_with (first | (go_at_call 199; refine HR.out.mono ?_; rintro e w6 ⟨rfl, F6⟩; have BX6 := BX.fr F6 (fun h => h); have BZ6 := BZ5.fr F6 (fun h => h); have x0' := BX6.cell 0; have x1' := BX6.cell 1; have z0' := BZ6.cell 0; have z1' := BZ6.cell 1; have f0' := BZ6.frozen 0; have f1' := BZ6.frozen 1; simp only [List.getElem?_toArray, List.getElem?_cons_succ, List.getElem?_cons_zero] at x0' x1' z0' z1'))
          obtain ⟨BZ7, F7⟩ := set2 (BZ5.fr F6 (fun h => h)) (.int .i64 tn) (.slice a4 m4 c4)
          have n0 := BZ7.cell 0
          have n1 := BZ7.cell 1
          simp at n0 n1
          have hob : ∀ q, (Value.slice a4 m4 c4).ownBlock = some q → w3.heap.size ≤ q := fun q hq => ((Vals.of_own HO5.out).2 q hq).1
          have HO7 := Lib.hid (own_le (ownsRow_fr (ownsRow_fr HO5.out F6 (fun _ _ h => h)) F7 (fun q hq e => by have := hob q hq; omega)) (base' := w.heap.size) (by have := HZ.out; omega))
          have HC7 := Lib.hid ((HC5'.out.old F6).step (K' := K) F7 (fun q hq e => .inr (by have := HZ.out; omega)) (fun _ h => .inl (.inl h)))
          have HF7 := Lib.hid ((HF5.out.trans (F6.mono (fun _ _ h => h.elim))).trans' F7 (fun i hi e => by have := HZ.out; omega))
          refine bodyPost_ret (v := .tuple #[.agg #[.int .i64 tn, .slice a4 m4 c4], .int .i64 0]) (by simp [results, Tryz.results168, go_sem, n0, n1]) rfl ⟨?_, HF7.out⟩
          unfold TextOut
          rw [HS6.out]
          have hc7 := HC7.out
          rw [Nat.add_assoc] at hc7
          simp only
          exact ⟨⟨_, rfl, by rw [hbl]; exact HO7.out⟩, hc7⟩
  · have hx1 : (x == 0) = false := beq_eq_false_iff_ne.2 hx
    have hr : readS (bs.drop p) = .error x := by
      have ho := HO.out
      cases hr : readS (bs.drop p) with
      | error e => rw [hr] at ho; rw [show x = e from ho]
      | ok vk => obtain ⟨v, m, k⟩ := vk; rw [hr] at ho; exact absurd ho.2.2 hx
    have hs : textReadS (bs.drop p) = .error x := by unfold textReadS; rw [hr]
    have hc3 := HC3.out
    rw [hr] at hc3
    obtain ⟨BZ3, F4⟩ := set2 BZ2 (.int .i64 0) (.slice none 0 0)
    have HC4 := Lib.hid (CurAt.step (K' := K) hc3 F4 (fun k hk e => .inr (by have := HZ.out; omega)) (fun _ h => .inl (.inl h)))
    have HF4 := Lib.hid (HF3.out.trans' F4 (fun i hi e => by have := HZ.out; omega))
    have HS := Lib.hid hs
    have n0 := BZ3.cell 0
    have n1 := BZ3.cell 1
    simp at n0 n1
    have hxn := Lib.hid hx
    clear hr hs hc3 F4 BZ3 BZ2 BP2 BY2 BT2 BG HC3 HF3 hx
    go_wp2_with fail
    refine bodyPost_ret (v := .tuple #[.agg #[.int .i64 0, .slice none 0 0], .int .i64 x]) (by simp [results, Tryz.results168, go_sem, n0, n1]) rfl ⟨?_, HF4.out⟩
    unfold TextOut
    rw [HS.out]
    exact ⟨rfl, hxn.out, HC4.out⟩
end Go.Proofs.YthjcoolefboodaaGreatDoor
