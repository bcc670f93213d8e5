/-
  Merged by program: XR06a XR06b XR06c XR06d XR06e.
-/
import Derived.Test.YthjcoolefboodaaGreatDoorI0e
import Derived.Test.YthjcoolefboodaaGreatDoorI0a
namespace Go.Q
open Go Go.RowKit
def amongB (n : Int) (l : List UInt8) : Bool := l.any fun x => (x.toNat : Int) == n
theorem among_take {n : Int} {l : List UInt8} {j : Nat} {x : UInt8} (h : l[j]? = some x) : amongB n (l.take (j + 1)) = (amongB n (l.take j) || ((x.toNat : Int) == n)) := by
  unfold amongB
  rw [List.take_add_one, h]
  simp
theorem among_mem {n : Int} {l : List UInt8} {j : Nat} {x : UInt8} (h : l[j]? = some x) (hx : ((x.toNat : Int) == n) = true) : amongB n l = true :=
  List.any_eq_true.2 ⟨x, List.mem_of_getElem? h, hx⟩
abbrev printL : List UInt8 := [97, 98, 99, 100, 101, 102, 103, 104, 105, 106, 107, 108, 109, 110, 111, 112, 113, 114, 115, 116, 117, 118, 119, 120, 121, 122, 65, 66, 67, 68, 69, 70, 71, 72, 73, 74, 75, 76, 77, 78, 79, 80, 81, 82, 83, 84, 85, 86, 87, 88, 89, 90, 48, 49, 50, 51, 52, 53, 54, 55, 56, 57, 32, 39, 40, 41, 43, 44, 45, 46, 47, 58, 61, 63]
set_option maxRecDepth 100000 in
theorem among_small : ∀ m : Fin 256, amongB (m.val : Int) printL = printables.contains (UInt8.ofNat m.val) := by decide +kernel
theorem among_may (n : Int) : amongB n printL = mayS 19 n := by
  simp only [mayS, show ¬ ((19 : Int) = 12) from by decide, if_false, if_true]
  by_cases h : 0 ≤ n ∧ n < 256
  · obtain ⟨m, rfl⟩ : ∃ m : Nat, n = m := ⟨n.toNat, by omega⟩
    have := among_small ⟨m, by omega⟩
    simp only at this
    rw [this, decide_eq_true h, Bool.true_and, Int.toNat_natCast]
  · rw [decide_eq_false h, Bool.false_and, amongB, List.any_eq_false]
    intro x _
    have := x.toNat_lt
    simp only [beq_iff_eq]
    omega
end Go.Q
namespace Go.Proofs.YthjcoolefboodaaGreatDoor
open Go Go.RowKit Go.Q
set_option maxRecDepth 20000 in
theorem r06Kind_any (k : Int) (w : World) :
    Calls Tryz.prog 147 #[.int .i64 k] w fun e w' => e = .returned (.bool (Go.Q.kindOk k)) ∧ w = w' := by
  by_cases h1 : k = 12
  · subst h1
    go_enter Tryz.func147, Tryz.ntmps147
    go_wp2_with fail
    go_ret
    exact ⟨rfl, rfl⟩
  by_cases h2 : k = 19
  · subst h2
    go_enter Tryz.func147, Tryz.ntmps147
    go_wp2_with fail
    go_ret
    exact ⟨rfl, rfl⟩
  by_cases h3 : k = 20
  · subst h3
    go_enter Tryz.func147, Tryz.ntmps147
    go_wp2_with fail
    go_ret
    exact ⟨rfl, rfl⟩
  by_cases h4 : k = 22
  · subst h4
    go_enter Tryz.func147, Tryz.ntmps147
    go_wp2_with fail
    go_ret
    exact ⟨rfl, rfl⟩
  by_cases h5 : k = 26
  · subst h5
    go_enter Tryz.func147, Tryz.ntmps147
    go_wp2_with fail
    go_ret
    exact ⟨rfl, rfl⟩
  have hk : Go.Q.kindOk k = (k == 30) := by
    unfold Go.Q.kindOk
    rw [Bool.eq_iff_iff, decide_eq_true_eq, beq_iff_eq]
    omega
  have HK := Lib.hid hk
  have q1 : (k == 12) = false := beq_eq_false_iff_ne.2 h1
  have q2 : (k == 19) = false := beq_eq_false_iff_ne.2 h2
  have q3 : (k == 20) = false := beq_eq_false_iff_ne.2 h3
  have q4 : (k == 22) = false := beq_eq_false_iff_ne.2 h4
  have q5 : (k == 26) = false := beq_eq_false_iff_ne.2 h5
  clear hk
  go_enter Tryz.func147, Tryz.ntmps147
  go_wp2_with fail
  go_ret
  exact ⟨by rw [HK.out]; rfl, rfl⟩
set_option maxRecDepth 20000 in
theorem r06among_any (n : Int) (l : List UInt8) (w : World) (hl : l.length ≤ 1099511627776) :
    Calls Tryz.prog 185 #[.int .i64 n, str l] w fun e w' => e = .returned (.bool (amongB n l)) ∧ w = w' := by
  have hsz : (ByteArray.mk l.toArray).size = l.length := by simp [ByteArray.size]
  go_enter Tryz.func185, Tryz.ntmps185
  go_wp2_with fail
  go_loopg [5] l.length (fun g i wr => ∃ j : Nat, g = l.length - j ∧ j ≤ l.length ∧ i = .int .i64 j ∧ amongB n (l.take j) = false ∧ wr = w)
  case atStart => exact ⟨0, rfl, Nat.zero_le _, rfl, rfl, rfl⟩
  case round =>
    obtain ⟨j, hg, hj, rfl, hall, rfl⟩ := hrel
    have HG := Lib.hid hg
    have HA := Lib.hid hall
    clear hg hall
    by_cases hjl : j < l.length
    · obtain ⟨x, hxj⟩ : ∃ x, l[j]? = some x := ⟨_, List.getElem?_eq_getElem hjl⟩
      have hix : ∀ w, (Instr.index 9 (str l) (.int .i64 j)).run Tryz.prog w = .ok (.int .u8 x.toNat) w := fun w => by
        rw [run_index_string w 9 _ .i64 j Tryz.underlying9, dif_pos ⟨by omega, by rw [hsz]; omega⟩]
        obtain ⟨h, rfl⟩ := List.getElem?_eq_some_iff.1 hxj
        simp [ByteArray.getElem_eq_getElem_data]
      have q2 : (j : Int) < (l.length : Int) := by omega
      have HT := Lib.hid (among_take (n := n) hxj)
      have HM := Lib.hid (fun h => among_mem (n := n) hxj h)
      clear hxj
      have hy0 : (0 : Int) ≤ (x.toNat : Int) := by omega
      have hy1 : (x.toNat : Int) < 256 := by have := x.toNat_lt; omega
      have hyw : wrap64 (x.toNat : Int) = (x.toNat : Int) := by unfold wrap64; omega
      generalize (x.toNat : Int) = y at *
      rcases Bool.eq_false_or_eq_true (y == n) with h | h
      · go_wp2_with fail
        go_ret
        exact ⟨by rw [HM.out h]; rfl, rfl⟩
      · go_wp2_with fail
        go_roundg (l.length - (j + 1))
        case measure => rw [HG.out]; omega
        case rel => exact ⟨j + 1, rfl, by omega, by go_num, by rw [HT.out, HA.out, h]; rfl, rfl⟩
    · have q2 : ¬ (j : Int) < (l.length : Int) := by omega
      have hA : amongB n l = false := by
        have := HA.out
        rwa [List.take_of_length_le (by omega)] at this
      have HAA := Lib.hid hA
      clear hA
      go_wp2_with fail
      go_ret
      exact ⟨by rw [HAA.out]; rfl, rfl⟩
set_option maxRecDepth 20000 in
theorem r06May_any (k n : Int) (w : World) :
    Calls Tryz.prog 149 #[.int .i64 k, .int .i64 n] w fun e w' => e = .returned (.bool (mayS k n)) ∧ w = w' := by
  by_cases h1 : n < 0
  · have hm : mayS k n = false := by
      unfold mayS
      rw [decide_eq_false (by omega : ¬ (0 ≤ n ∧ n ≤ 1114111)), decide_eq_false (by omega : ¬ (0 ≤ n ∧ n < 256)), decide_eq_false (by omega : ¬ (0 ≤ n ∧ n ≤ 255)), decide_eq_false (by omega : ¬ (0 ≤ n ∧ n < 128)), decide_eq_false (by omega : ¬ (32 ≤ n ∧ n ≤ 126)), decide_eq_false (by omega : ¬ (0 ≤ n ∧ n ≤ 65535))]
      simp
    have HM := Lib.hid hm
    have q : decide (n < 0) = true := decide_eq_true h1
    clear hm
    go_enter Tryz.func149, Tryz.ntmps149
    go_wp2_with fail
    go_ret
    exact ⟨by rw [HM.out]; rfl, rfl⟩
  have q1 : decide (n < 0) = false := decide_eq_false h1
  by_cases h2 : (1114111 : Int) < n
  · have hm : mayS k n = false := by
      unfold mayS
      rw [decide_eq_false (by omega : ¬ (0 ≤ n ∧ n ≤ 1114111)), decide_eq_false (by omega : ¬ (0 ≤ n ∧ n < 256)), decide_eq_false (by omega : ¬ (0 ≤ n ∧ n ≤ 255)), decide_eq_false (by omega : ¬ (0 ≤ n ∧ n < 128)), decide_eq_false (by omega : ¬ (32 ≤ n ∧ n ≤ 126)), decide_eq_false (by omega : ¬ (0 ≤ n ∧ n ≤ 65535))]
      simp
    have HM := Lib.hid hm
    have q : decide ((1114111 : Int) < n) = true := decide_eq_true h2
    clear hm
    go_enter Tryz.func149, Tryz.ntmps149
    go_wp2_with fail
    go_ret
    exact ⟨by rw [HM.out]; rfl, rfl⟩
  have q2 : decide ((1114111 : Int) < n) = false := decide_eq_false h2
  by_cases h3 : 55296 ≤ n ∧ n ≤ 57343
  · have hm : mayS k n = false := by
      unfold mayS surr
      rw [decide_eq_true h3, decide_eq_false (by omega : ¬ (0 ≤ n ∧ n < 256)), decide_eq_false (by omega : ¬ (0 ≤ n ∧ n ≤ 255)), decide_eq_false (by omega : ¬ (0 ≤ n ∧ n < 128)), decide_eq_false (by omega : ¬ (32 ≤ n ∧ n ≤ 126))]
      simp
    have HM := Lib.hid hm
    have q3 : decide ((55296 : Int) ≤ n) = true := decide_eq_true h3.1
    have q4 : decide (n ≤ 57343) = true := decide_eq_true h3.2
    clear hm
    go_enter Tryz.func149, Tryz.ntmps149
    go_wp2_with fail
    go_ret
    exact ⟨by rw [HM.out]; rfl, rfl⟩
  have hs : surr n = false := decide_eq_false h3
  have hN : (decide ((55296 : Int) ≤ n) = false) ∨ (decide ((55296 : Int) ≤ n) = true ∧ decide (n ≤ 57343) = false) := by
    by_cases h : (55296 : Int) ≤ n
    · exact .inr ⟨decide_eq_true h, decide_eq_false (by omega)⟩
    · exact .inl (decide_eq_false h)
  by_cases k12 : k = 12
  · subst k12
    have hm : mayS 12 n = true := by
      simp only [mayS, if_true, hs]
      rw [decide_eq_true (by omega)]
      rfl
    have HM := Lib.hid hm
    clear hm hs
    rcases hN with q3 | ⟨q3, q4⟩
    all_goals
      go_enter Tryz.func149, Tryz.ntmps149
      go_wp2_with fail
      go_ret
      exact ⟨by rw [HM.out]; rfl, rfl⟩
  have p1 : (k == 12) = false := beq_eq_false_iff_ne.2 k12
  by_cases k19 : k = 19
  · subst k19
    have H := Lib.hid (r06among_any n printL)
    have hm := among_may n
    have HM := Lib.hid hm
    clear hm hs
    rcases hN with q3 | ⟨q3, q4⟩
    all_goals
      go_enter Tryz.func149, Tryz.ntmps149
      go_wp2_with fail
      refine (H.out _ (by decide)).mono ?_
      rintro e w' ⟨rfl, rfl⟩
      go_wp2_with fail
      go_ret
      exact ⟨by rw [← HM.out]; rfl, rfl⟩
  have p2 : (k == 19) = false := beq_eq_false_iff_ne.2 k19
  by_cases k20 : k = 20
  · subst k20
    have hm : mayS 20 n = decide (n < 256) := by
      simp only [mayS, show ¬ ((20 : Int) = 12) from by decide, show ¬ ((20 : Int) = 19) from by decide, if_false, if_true]
      rw [decide_eq_decide]
      omega
    have HM := Lib.hid hm
    clear hm hs
    rcases hN with q3 | ⟨q3, q4⟩
    all_goals
      go_enter Tryz.func149, Tryz.ntmps149
      go_wp2_with fail
      go_ret
      exact ⟨by rw [HM.out]; rfl, rfl⟩
  have p3 : (k == 20) = false := beq_eq_false_iff_ne.2 k20
  by_cases k22 : k = 22
  · subst k22
    have hm : mayS 22 n = decide (n < 128) := by
      simp only [mayS, show ¬ ((22 : Int) = 12) from by decide, show ¬ ((22 : Int) = 19) from by decide, show ¬ ((22 : Int) = 20) from by decide, if_false, if_true]
      rw [decide_eq_decide]
      omega
    have HM := Lib.hid hm
    clear hm hs
    rcases hN with q3 | ⟨q3, q4⟩
    all_goals
      go_enter Tryz.func149, Tryz.ntmps149
      go_wp2_with fail
      go_ret
      exact ⟨by rw [HM.out]; rfl, rfl⟩
  have p4 : (k == 22) = false := beq_eq_false_iff_ne.2 k22
  by_cases k26 : k = 26
  · subst k26
    have hm : mayS 26 n = (decide ((31 : Int) < n) && decide (n < 127)) := by
      simp only [mayS, show ¬ ((26 : Int) = 12) from by decide, show ¬ ((26 : Int) = 19) from by decide, show ¬ ((26 : Int) = 20) from by decide, show ¬ ((26 : Int) = 22) from by decide, if_false, if_true]
      rw [← Bool.decide_and, decide_eq_decide]
      omega
    have HM := Lib.hid hm
    clear hm hs
    by_cases h31 : (31 : Int) < n
    · have p31 : decide ((31 : Int) < n) = true := decide_eq_true h31
      rcases hN with q3 | ⟨q3, q4⟩
      all_goals
        go_enter Tryz.func149, Tryz.ntmps149
        go_wp2_with fail
        go_ret
        exact ⟨by rw [HM.out, p31]; rfl, rfl⟩
    · have p31 : decide ((31 : Int) < n) = false := decide_eq_false h31
      rcases hN with q3 | ⟨q3, q4⟩
      all_goals
        go_enter Tryz.func149, Tryz.ntmps149
        go_wp2_with fail
        go_ret
        exact ⟨by rw [HM.out, p31]; rfl, rfl⟩
  have p5 : (k == 26) = false := beq_eq_false_iff_ne.2 k26
  by_cases k30 : k = 30
  · subst k30
    have hm : mayS 30 n = decide (n < 65536) := by
      simp only [mayS, show ¬ ((30 : Int) = 12) from by decide, show ¬ ((30 : Int) = 19) from by decide, show ¬ ((30 : Int) = 20) from by decide, show ¬ ((30 : Int) = 22) from by decide, show ¬ ((30 : Int) = 26) from by decide, if_false, if_true, hs]
      rw [Bool.not_false, Bool.and_true, decide_eq_decide]
      omega
    have HM := Lib.hid hm
    clear hm hs
    rcases hN with q3 | ⟨q3, q4⟩
    all_goals
      go_enter Tryz.func149, Tryz.ntmps149
      go_wp2_with fail
      go_ret
      exact ⟨by rw [HM.out]; rfl, rfl⟩
  have p6 : (k == 30) = false := beq_eq_false_iff_ne.2 k30
  have hm : mayS k n = false := by
    simp only [mayS, if_neg k12, if_neg k19, if_neg k20, if_neg k22, if_neg k26, if_neg k30]
  have HM := Lib.hid hm
  clear hm hs
  rcases hN with q3 | ⟨q3, q4⟩
  all_goals
    go_enter Tryz.func149, Tryz.ntmps149
    go_wp2_with fail
    go_ret
    exact ⟨by rw [HM.out]; rfl, rfl⟩
end Go.Proofs.YthjcoolefboodaaGreatDoor

namespace Go.Q
open Go Go.RowKit
abbrev natInts (ns : List Nat) : List Int := ns.map fun (n : Nat) => (n : Int)
theorem enc4_le (n : Nat) : (enc n).length ≤ 4 := by unfold enc; split; simp; split; simp; split <;> simp
theorem encAll_le : ∀ (l : List Nat), (encAll l).length ≤ 4 * l.length
  | [] => by simp [encAll]
  | n :: l => by
    have := encAll_le l
    have := enc4_le n
    simp only [encAll, List.flatMap_cons, List.length_append, List.length_cons] at *
    omega
theorem encAll_take {ns : List Nat} {j n : Nat} (h : ns[j]? = some n) : encAll (ns.take (j + 1)) = encAll (ns.take j) ++ enc n := by
  unfold encAll
  rw [List.take_add_one, h]
  simp
theorem encAll_take_le (ns : List Nat) (j : Nat) : (encAll (ns.take j)).length ≤ 4 * ns.length := by
  have := encAll_le (ns.take j)
  rw [List.length_take] at this
  omega
end Go.Q
namespace Go.Proofs.YthjcoolefboodaaGreatDoor
open Go Go.RowKit Go.Q
theorem add_bytes {w : World} {base n : Nat} {v : Value} {xs : List UInt8} (hown : w.ownsRow base 5 1 v n (Lib.byteCells xs)) (l : List UInt8) (cs : Array Value) (hcs : (Lib.byteCells l).toArray = cs) (k : Nat) (hk : l.length = k) (hsz : n + k ≤ 1099511627776) (hb : base ≤ w.heap.size) :
    ∃ a c w', (Builtin.append_ #[22, 22] 22 #[v, .slice (some ⟨w.heap.size, 0, none⟩) k k]).run Tryz.prog (w.alloc (.cells cs 5)) = .ok (.slice a (n + k) c) w' ∧ w'.ownsRow base 5 1 (.slice a (n + k) c) (n + k) (Lib.byteCells (xs ++ l)) ∧ Fr (fun k => v.ownBlock = some k) w w' := by
  subst hcs hk
  have BX := Blk.new w 5 (Lib.byteCells l).toArray
  have F1 : Fr (fun _ => False) w (w.alloc (.cells (Lib.byteCells l).toArray 5)) := (Fr.refl w).alloc _
  have hsrc : Bytes (w.alloc (.cells (Lib.byteCells l).toArray 5)) (.slice (some ⟨w.heap.size, 0, none⟩) l.length l.length) l := by
    have h := Vals.of_block BX (by unfold maxLen; simp [byteCells_len]; omega)
    simpa [byteCells_len] using h
  obtain ⟨v', w2, hrun, h1, F2, _⟩ := append_bytes (ownsRow_fr hown F1 (fun _ _ h => h)) (some ⟨w.heap.size, 0, none⟩) l.length l.length l hsrc (by omega) (Nat.le_trans hb F1.size)
  obtain ⟨a, m', c, rfl, rfl⟩ := own_shape h1
  exact ⟨a, c, w2, hrun, h1, (F1.mono (T := fun k => v.ownBlock = some k) (fun _ _ h => h.elim)).trans F2⟩
set_option maxRecDepth 20000 in
set_option maxHeartbeats 2000000 in
theorem r06Utf8_any (v : Value) (ns : List Nat) (w : World) (h : Ints w v (natInts ns)) (hn : ∀ n ∈ ns, n < 1114112) (hlim : ns.length ≤ 100000000) :
    Calls Tryz.prog 114 #[v] w fun e w' => ∃ v', e = .returned v' ∧ w'.ownsRow w.heap.size 5 1 v' (encAll ns).length (Lib.byteCells (encAll ns)) ∧ Fr (fun _ => False) w w' := by
  obtain ⟨a, cap, rfl, hc, hm, hx⟩ := h.form
  rw [List.length_map] at hc hx ⊢
  have HX := Lib.hid hx
  have HN := Lib.hid hn
  clear h hx hn hc hm
  go_enter Tryz.func114, Tryz.ntmps114
  go_wp2_with fail
  go_loopg [3, 4] ns.length (fun g b i wr => ∃ (j : Nat) (a6 : Option Addr) (n6 c6 : Nat), g = ns.length - j ∧ j ≤ ns.length ∧ b = .slice a6 n6 c6 ∧ i = .int .i64 j ∧ wr.ownsRow w.heap.size 5 1 (.slice a6 n6 c6) (encAll (ns.take j)).length (Lib.byteCells (encAll (ns.take j))) ∧ Fr (fun _ => False) w wr)
  case atStart => exact ⟨0, none, 0, 0, rfl, Nat.zero_le _, rfl, rfl, ⟨rfl, .inl ⟨rfl, rfl⟩⟩, Fr.refl _⟩
  case round =>
    obtain ⟨j, a6, n6, c6, hg, hj, rfl, rfl, ho6, G6⟩ := hrel
    have HG := Lib.hid hg
    clear hg
    by_cases hjl : j < ns.length
    · obtain ⟨b, o, rfl, hy⟩ := HX.out (by omega)
      obtain ⟨n, hnj⟩ : ∃ n, ns[j]? = some n := ⟨_, List.getElem?_eq_getElem hjl⟩
      have ec := G6.cell (hy j n (by rw [List.getElem?_map, hnj]; rfl)) (fun h => h)
      have hb0 : w.heap.size ≤ wr.heap.size := G6.size
      have hlt := HN.out n (List.mem_of_getElem? hnj)
      have htl := encAll_take_le ns j
      have hvb := (Vals.of_own ho6).2
      have q1 : (0 : Int) ≤ (j : Int) := by omega
      have q2 : (j : Int) < (ns.length : Int) := by omega
      have HT := Lib.hid (encAll_take hnj)
      have HHY := Lib.hid hy
      clear hy hnj
      by_cases n1 : n < 128
      · have r1 : (n : Int) < 128 := by omega
        have hw1 : IntKind.u8.wrap (n : Int) = (n : Int) := by simp [IntKind.wrap, IntKind.signed, IntKind.bits]; omega
        have he : enc n = [UInt8.ofNat n] := by unfold enc; rw [if_pos n1]
        obtain ⟨a7, c7, w7, hr7, ho7, F7⟩ := add_bytes ho6 [UInt8.ofNat n] #[.int .u8 n] (by simp only [Lib.byteCells, List.map_cons, List.map_nil, Go.Q.u8 n (by omega)]) 1 rfl (by omega) hb0
        have G7 := G6.trans' F7 (fun i hi e => absurd hi (by have := hvb i e; omega))
        rw [← he, ← HT.out] at ho7
        have hL := congrArg List.length HT.out
        rw [List.length_append, he] at hL
        have HL := Lib.hid hL
        have HO7 := Lib.hid ho7
        have HG7 := Lib.hid G7
        have HRUN := Lib.hid hr7
        clear ho6 ho7 F7 hvb G6 G7 hr7 hL he htl
        generalize (encAll (ns.take j)).length = L at *
        go_wp2_with (at_builtin; refine wpList_append_run (by rfl) (.tmp 40) (.tmp 43) 22 (by rfl) _ w7 (by exact HRUN.out) ?_)
        go_roundg (ns.length - (j + 1))
        case measure => rw [HG.out]; omega
        case rel => exact ⟨j + 1, a7, L + 1, c7, rfl, by omega, rfl, by go_num, by rw [HL.out]; exact HO7.out, HG7.out⟩
      have r1 : ¬ (n : Int) < 128 := by omega
      by_cases n2 : n < 2048
      · have r2 : (n : Int) < 2048 := by omega
        obtain ⟨y1, hy1⟩ : ∃ y, y = 192 + n / 64 := ⟨_, rfl⟩
        obtain ⟨y2, hy2⟩ : ∃ y, y = 128 + n % 64 := ⟨_, rfl⟩
        have hw1 : IntKind.u8.wrap (192 + (n : Int) / 64) = (y1 : Int) := by rw [hy1]; simp [IntKind.wrap, IntKind.signed, IntKind.bits]; omega
        have hw2 : IntKind.u8.wrap (128 + (n : Int) % 64) = (y2 : Int) := by rw [hy2]; simp [IntKind.wrap, IntKind.signed, IntKind.bits]; omega
        have he : enc n = [UInt8.ofNat y1, UInt8.ofNat y2] := by unfold enc; rw [if_neg n1, if_pos n2, hy1, hy2]
        obtain ⟨a7, c7, w7, hr7, ho7, F7⟩ := add_bytes ho6 [UInt8.ofNat y1, UInt8.ofNat y2] #[.int .u8 y1, .int .u8 y2] (by simp only [Lib.byteCells, List.map_cons, List.map_nil, Go.Q.u8 y1 (by omega), Go.Q.u8 y2 (by omega)]) 2 rfl (by omega) hb0
        have G7 := G6.trans' F7 (fun i hi e => absurd hi (by have := hvb i e; omega))
        rw [← he, ← HT.out] at ho7
        have hL := congrArg List.length HT.out
        rw [List.length_append, he] at hL
        have HL := Lib.hid hL
        have HO7 := Lib.hid ho7
        have HG7 := Lib.hid G7
        have HRUN := Lib.hid hr7
        clear ho6 ho7 F7 hvb G6 G7 hr7 hL he htl hy1 hy2
        generalize (encAll (ns.take j)).length = L at *
        go_wp2_with (at_builtin; refine wpList_append_run (by rfl) (.tmp 48) (.tmp 57) 22 (by rfl) _ w7 (by exact HRUN.out) ?_)
        go_roundg (ns.length - (j + 1))
        case measure => rw [HG.out]; omega
        case rel => exact ⟨j + 1, a7, L + 2, c7, rfl, by omega, rfl, by go_num, by rw [HL.out]; exact HO7.out, HG7.out⟩
      have r2 : ¬ (n : Int) < 2048 := by omega
      by_cases n3 : n < 65536
      · have r3 : (n : Int) < 65536 := by omega
        obtain ⟨y1, hy1⟩ : ∃ y, y = 224 + n / 4096 := ⟨_, rfl⟩
        obtain ⟨y2, hy2⟩ : ∃ y, y = 128 + n / 64 % 64 := ⟨_, rfl⟩
        obtain ⟨y3, hy3⟩ : ∃ y, y = 128 + n % 64 := ⟨_, rfl⟩
        have hw1 : IntKind.u8.wrap (224 + (n : Int) / 4096) = (y1 : Int) := by rw [hy1]; simp [IntKind.wrap, IntKind.signed, IntKind.bits]; omega
        have hw2 : IntKind.u8.wrap (128 + (n : Int) / 64 % 64) = (y2 : Int) := by rw [hy2]; simp [IntKind.wrap, IntKind.signed, IntKind.bits]; omega
        have hw3 : IntKind.u8.wrap (128 + (n : Int) % 64) = (y3 : Int) := by rw [hy3]; simp [IntKind.wrap, IntKind.signed, IntKind.bits]; omega
        have he : enc n = [UInt8.ofNat y1, UInt8.ofNat y2, UInt8.ofNat y3] := by unfold enc; rw [if_neg n1, if_neg n2, if_pos n3, hy1, hy2, hy3]
        obtain ⟨a7, c7, w7, hr7, ho7, F7⟩ := add_bytes ho6 [UInt8.ofNat y1, UInt8.ofNat y2, UInt8.ofNat y3] #[.int .u8 y1, .int .u8 y2, .int .u8 y3] (by simp only [Lib.byteCells, List.map_cons, List.map_nil, Go.Q.u8 y1 (by omega), Go.Q.u8 y2 (by omega), Go.Q.u8 y3 (by omega)]) 3 rfl (by omega) hb0
        have G7 := G6.trans' F7 (fun i hi e => absurd hi (by have := hvb i e; omega))
        rw [← he, ← HT.out] at ho7
        have hL := congrArg List.length HT.out
        rw [List.length_append, he] at hL
        have HL := Lib.hid hL
        have HO7 := Lib.hid ho7
        have HG7 := Lib.hid G7
        have HRUN := Lib.hid hr7
        clear ho6 ho7 F7 hvb G6 G7 hr7 hL he htl hy1 hy2 hy3
        generalize (encAll (ns.take j)).length = L at *
        go_wp2_with (at_builtin; refine wpList_append_run (by rfl) (.tmp 62) (.tmp 76) 22 (by rfl) _ w7 (by exact HRUN.out) ?_)
        go_roundg (ns.length - (j + 1))
        case measure => rw [HG.out]; omega
        case rel => exact ⟨j + 1, a7, L + 3, c7, rfl, by omega, rfl, by go_num, by rw [HL.out]; exact HO7.out, HG7.out⟩
      have r3 : ¬ (n : Int) < 65536 := by omega
      · obtain ⟨y0, hy0⟩ : ∃ y, y = 240 + n / 262144 := ⟨_, rfl⟩
        obtain ⟨y1, hy1⟩ : ∃ y, y = 128 + n / 4096 % 64 := ⟨_, rfl⟩
        obtain ⟨y2, hy2⟩ : ∃ y, y = 128 + n / 64 % 64 := ⟨_, rfl⟩
        obtain ⟨y3, hy3⟩ : ∃ y, y = 128 + n % 64 := ⟨_, rfl⟩
        have hw0 : IntKind.u8.wrap (240 + (n : Int) / 262144) = (y0 : Int) := by rw [hy0]; simp [IntKind.wrap, IntKind.signed, IntKind.bits]; omega
        have hw1 : IntKind.u8.wrap (128 + (n : Int) / 4096 % 64) = (y1 : Int) := by rw [hy1]; simp [IntKind.wrap, IntKind.signed, IntKind.bits]; omega
        have hw2 : IntKind.u8.wrap (128 + (n : Int) / 64 % 64) = (y2 : Int) := by rw [hy2]; simp [IntKind.wrap, IntKind.signed, IntKind.bits]; omega
        have hw3 : IntKind.u8.wrap (128 + (n : Int) % 64) = (y3 : Int) := by rw [hy3]; simp [IntKind.wrap, IntKind.signed, IntKind.bits]; omega
        have he : enc n = [UInt8.ofNat y0, UInt8.ofNat y1, UInt8.ofNat y2, UInt8.ofNat y3] := by unfold enc; rw [if_neg n1, if_neg n2, if_neg n3, hy0, hy1, hy2, hy3]
        obtain ⟨a7, c7, w7, hr7, ho7, F7⟩ := add_bytes ho6 [UInt8.ofNat y0, UInt8.ofNat y1, UInt8.ofNat y2, UInt8.ofNat y3] #[.int .u8 y0, .int .u8 y1, .int .u8 y2, .int .u8 y3] (by simp only [Lib.byteCells, List.map_cons, List.map_nil, Go.Q.u8 y0 (by omega), Go.Q.u8 y1 (by omega), Go.Q.u8 y2 (by omega), Go.Q.u8 y3 (by omega)]) 4 rfl (by omega) hb0
        have G7 := G6.trans' F7 (fun i hi e => absurd hi (by have := hvb i e; omega))
        rw [← he, ← HT.out] at ho7
        have hL := congrArg List.length HT.out
        rw [List.length_append, he] at hL
        have HL := Lib.hid hL
        have HO7 := Lib.hid ho7
        have HG7 := Lib.hid G7
        have HRUN := Lib.hid hr7
        clear ho6 ho7 F7 hvb G6 G7 hr7 hL he htl hy0 hy1 hy2 hy3
        generalize (encAll (ns.take j)).length = L at *
        go_wp2_with (at_builtin; refine wpList_append_run (by rfl) (.tmp 16) (.tmp 35) 22 (by rfl) _ w7 (by exact HRUN.out) ?_)
        go_roundg (ns.length - (j + 1))
        case measure => rw [HG.out]; omega
        case rel => exact ⟨j + 1, a7, L + 4, c7, rfl, by omega, rfl, by go_num, by rw [HL.out]; exact HO7.out, HG7.out⟩
    · have hj' : encAll (ns.take j) = encAll ns := by rw [List.take_of_length_le (by omega)]
      rw [hj'] at ho6
      have HO6 := Lib.hid ho6
      have HG6 := Lib.hid G6
      have q2 : ¬ (j : Int) < (ns.length : Int) := by omega
      clear ho6 G6 hj'
      go_wp2_with fail
      go_ret
      exact ⟨_, rfl, HO6.out, HG6.out⟩
end Go.Proofs.YthjcoolefboodaaGreatDoor

namespace Go.Q
open Go Go.RowKit
def looseHead (c : Nat) : Nat × Nat := if 240 ≤ c then (c - 240, 3) else if 224 ≤ c then (c - 224, 2) else if 192 ≤ c then (c - 192, 1) else (c, 0)
def looseAcc (n0 : Nat) (l : List UInt8) : Nat := l.foldl (fun n y => 64 * n + y.toNat % 64) n0
def looseS : Nat → List UInt8 → Option (List Nat)
  | _, [] => some []
  | 0, _ :: _ => none
  | f + 1, x :: t => if 1114111 < looseAcc (looseHead x.toNat).1 (t.take (looseHead x.toNat).2) then none else (looseS f (t.drop (looseHead x.toNat).2)).map (looseAcc (looseHead x.toNat).1 (t.take (looseHead x.toNat).2) :: ·)
theorem loose_fuel : ∀ (f g : Nat) (l : List UInt8), l.length ≤ f → l.length ≤ g → looseS f l = looseS g l
  | f, g, [], _, _ => by cases f <;> cases g <;> rfl
  | 0, _, _ :: _, h, _ => by simp at h
  | _ + 1, 0, _ :: _, _, h => by simp at h
  | f + 1, g + 1, x :: t, hf, hg => by
    simp only [List.length_cons] at hf hg
    simp only [looseS]
    rw [loose_fuel f g (t.drop (looseHead x.toNat).2) (by rw [List.length_drop]; omega) (by rw [List.length_drop]; omega)]
def looseL (l : List UInt8) : Option (List Nat) := looseS l.length l
theorem looseL_nil : looseL [] = some [] := rfl
theorem looseL_cons {x : UInt8} {t : List UInt8} {n0 more : Nat} (h : looseHead x.toNat = (n0, more)) : looseL (x :: t) = if 1114111 < looseAcc n0 (t.take more) then none else (looseL (t.drop more)).map (looseAcc n0 (t.take more) :: ·) := by
  simp only [looseL, List.length_cons, looseS, h]
  rw [loose_fuel t.length (t.drop more).length (t.drop more) (by rw [List.length_drop]; omega) (Nat.le_refl _)]
theorem acc_lt : ∀ (l : List UInt8) (n0 : Nat), looseAcc n0 l < (n0 + 1) * 64 ^ l.length
  | [], n0 => by simp [looseAcc]
  | y :: t, n0 => by
    have := acc_lt t (64 * n0 + y.toNat % 64)
    have h2 : (64 * n0 + y.toNat % 64 + 1) ≤ (n0 + 1) * 64 := by omega
    have h3 := Nat.mul_le_mul_right (64 ^ t.length) h2
    rw [Nat.mul_assoc] at h3
    have h4 : 64 * 64 ^ t.length = 64 ^ (y :: t).length := by rw [List.length_cons, Nat.pow_succ, Nat.mul_comm]
    rw [h4] at h3
    exact Nat.lt_of_lt_of_le this h3
theorem acc_take {n0 k : Nat} {t : List UInt8} {y : UInt8} (h : t[k]? = some y) : looseAcc n0 (t.take (k + 1)) = 64 * looseAcc n0 (t.take k) + y.toNat % 64 := by
  unfold looseAcc
  rw [List.take_add_one, h]
  simp [List.foldl_append]
theorem acc_small {c n0 more : Nat} (h : looseHead c = (n0, more)) (hc : c < 256) (t : List UInt8) (k : Nat) (hk : k ≤ more) : looseAcc n0 (t.take k) < 8388608 ∧ more ≤ 3 := by
  have h1 := acc_lt (t.take k) n0
  have h2 : (t.take k).length ≤ k := by rw [List.length_take]; omega
  have h3 : (64 : Nat) ^ (t.take k).length ≤ 64 ^ k := Nat.pow_le_pow_right (by decide) h2
  have h4 := Nat.mul_le_mul_left (n0 + 1) h3
  have hm : (n0 < 32 ∧ more ≤ 3) ∨ (n0 < 192 ∧ more = 0) := by
    unfold looseHead at h
    split at h
    · simp only [Prod.mk.injEq] at h; omega
    split at h
    · simp only [Prod.mk.injEq] at h; omega
    split at h
    · simp only [Prod.mk.injEq] at h; omega
    · simp only [Prod.mk.injEq] at h; omega
  rcases hm with ⟨a, b⟩ | ⟨a, rfl⟩
  · have h5 : (64 : Nat) ^ k ≤ 64 ^ 3 := Nat.pow_le_pow_right (by decide) (by omega)
    have h6 := Nat.mul_le_mul (show n0 + 1 ≤ 32 from by omega) h5
    exact ⟨by omega, b⟩
  · obtain rfl : k = 0 := by omega
    simp only [Nat.pow_zero, Nat.mul_one] at h4
    exact ⟨by omega, by omega⟩
def wideR (b : List UInt8) : Option (List Nat) :=
  match looseL b with
  | none => none
  | some ns => if (natInts ns).all (mayS 12) = true ∧ encAll ns = b then some ns else none
theorem wideR_none {b : List UInt8} (h : looseL b = none) : wideR b = none := by unfold wideR; rw [h]
theorem wideR_some {b : List UInt8} {ns : List Nat} (h : looseL b = some ns) : wideR b = if (natInts ns).all (mayS 12) = true ∧ encAll ns = b then some ns else none := by unfold wideR; rw [h]
theorem wideR_ok {b : List UInt8} {ns : List Nat} (h : wideR b = some ns) : encAll ns = b ∧ (natInts ns).all (mayS 12) = true ∧ signsS 12 b = natInts ns ∧ rightS 12 b = true := by
  unfold wideR at h
  split at h
  · cases h
  · split at h
    · rename_i hh
      obtain ⟨ha, hb⟩ := hh
      simp only [Option.some.injEq] at h
      rw [h] at ha hb
      have hs : signsS 12 b = natInts ns := by
        have := signs_of (k := 12) (l := natInts ns) (by decide) (fun n hn => List.all_eq_true.1 ha n hn)
        rw [← this]
        congr 1
        rw [← hb]
        simp only [ofS, encAll, natInts, List.flatMap_map]
        rfl
      refine ⟨hb, ha, hs, ?_⟩
      unfold rightS
      rw [hs, ha]
      rfl
    · cases h
end Go.Q

namespace Go.Proofs.YthjcoolefboodaaGreatDoor
open Go Go.RowKit Go.Q
def WideOut (w w' : World) (b : List UInt8) (e : Ending) : Prop :=
  ∃ v, e = .returned (.tuple #[v, .bool (wideR b).isSome]) ∧ Ints w' v (natInts ((wideR b).getD [])) ∧ Fr (fun _ => False) w w'
theorem wideOut_no {w w' : World} {b : List UInt8} (h : wideR b = none) (F : Fr (fun _ => False) w w') : WideOut w w' b (.returned (.tuple #[.slice none 0 0, .bool false])) := by
  refine ⟨_, by rw [h]; rfl, ?_, F⟩
  rw [h]
  exact ⟨none, 0, rfl, Nat.zero_le _, by unfold maxLen; omega, fun h => absurd h (by decide)⟩
theorem le_snoc {xs : List Nat} {A : Nat} (h : ∀ x ∈ xs, x ≤ 1114111) (hA : ¬ 1114111 < A) : ∀ x ∈ xs ++ [A], x ≤ 1114111 := by
  intro x hx
  rcases List.mem_append.1 hx with h' | h'
  · exact h x h'
  · rw [List.mem_singleton.1 h']
    omega
set_option maxRecDepth 20000 in
set_option maxHeartbeats 8000000 in
theorem r06wide_any (v : Value) (b : List UInt8) (w : World) (h : Bytes w v b) (hlim : b.length ≤ 16777216) :
    Calls Tryz.prog 148 #[v] w fun e w' => WideOut w w' b e := by
  obtain ⟨a, cap, rfl, -, -, hx⟩ := h.form
  have HB := Lib.hid h
  have HX := Lib.hid hx
  clear h hx
  go_enter Tryz.func148, Tryz.ntmps148
  go_wp2_with fail
  go_loopg [4, 5] (b.length + 4) (fun g l i wr => ∃ (xs : List Nat) (j : Nat) (a6 : Option Addr) (n6 c6 : Nat), g = b.length + 4 - j ∧ j ≤ b.length + 3 ∧ l = .slice a6 n6 c6 ∧ i = .int .i64 j ∧ wr.ownsRow w.heap.size 3 1 (.slice a6 n6 c6) xs.length (intCells (natInts xs)) ∧ looseL b = (looseL (b.drop j)).map (xs ++ ·) ∧ (∀ x ∈ xs, x ≤ 1114111) ∧ xs.length ≤ j ∧ Fr (fun _ => False) w wr)
  case atStart => exact ⟨[], 0, none, 0, 0, rfl, Nat.zero_le _, rfl, rfl, ⟨rfl, .inl ⟨rfl, rfl⟩⟩, by simp, by simp, Nat.zero_le _, Fr.refl _⟩
  case round =>
    obtain ⟨xs, j, a6, n6, c6, hg, hj, rfl, rfl, ho6, hL, hxs, hxl, G6⟩ := hrel
    have HG := Lib.hid hg
    have HL := Lib.hid hL
    have HXS := Lib.hid hxs
    have HO6 := Lib.hid ho6
    have HG6 := Lib.hid G6
    clear hg hL hxs ho6 G6
    by_cases hjl : j < b.length
    · obtain ⟨bb, oo, rfl, hy⟩ := HX.out (by omega)
      obtain ⟨x, hxj⟩ : ∃ x, b[j]? = some x := ⟨_, List.getElem?_eq_getElem hjl⟩
      have hd : b.drop j = x :: b.drop (j + 1) := by
        obtain ⟨h, rfl⟩ := List.getElem?_eq_some_iff.1 hxj
        exact List.drop_eq_getElem_cons h
      have ec := HG6.out.cell (hy j x hxj) (fun h => h)
      have HY := Lib.hid hy
      have q1 : (0 : Int) ≤ (j : Int) := by omega
      have q2 : (j : Int) < (b.length : Int) := by omega
      obtain ⟨⟨n0, more⟩, hh⟩ : ∃ p, looseHead x.toNat = p := ⟨_, rfl⟩
      have hLc := looseL_cons (t := b.drop (j + 1)) hh
      have hxlt := x.toNat_lt
      have hsm := fun k hk => acc_small hh hxlt (b.drop (j + 1)) k hk
      obtain ⟨c, hc⟩ : ∃ c, c = x.toNat := ⟨_, rfl⟩
      rw [← hc] at hxlt hh ec
      have hcw : wrap64 (c : Int) = (c : Int) := by unfold wrap64; omega
      have HD := Lib.hid hd
      have HLC := Lib.hid hLc
      have HSM := Lib.hid hsm
      have hcases : ((240 ≤ c ∧ (c : Int) - 240 = (n0 : Int) ∧ more = 3) ∨ (¬ 240 ≤ c ∧ 224 ≤ c ∧ (c : Int) - 224 = (n0 : Int) ∧ more = 2) ∨ (¬ 240 ≤ c ∧ ¬ 224 ≤ c ∧ 192 ≤ c ∧ (c : Int) - 192 = (n0 : Int) ∧ more = 1) ∨ (¬ 240 ≤ c ∧ ¬ 224 ≤ c ∧ ¬ 192 ≤ c ∧ (c : Int) = (n0 : Int) ∧ more = 0)) := by
        unfold looseHead at hh
        split at hh
        · simp only [Prod.mk.injEq] at hh; omega
        split at hh
        · simp only [Prod.mk.injEq] at hh; omega
        split at hh
        · simp only [Prod.mk.injEq] at hh; omega
        · simp only [Prod.mk.injEq] at hh; omega
      clear hy hxj hd hLc hsm hc hh
      have hn0 : n0 < 256 := by omega
      rcases hcases with ⟨d1, d4, rfl⟩ | ⟨d1, d2, d4, rfl⟩ | ⟨d1, d2, d3, d4, rfl⟩ | ⟨d1, d2, d3, d4, rfl⟩
      · have p1 : (240 : Int) ≤ (c : Int) := by omega
        go_wp2_with fail
        obtain ⟨wo, hwo⟩ : ∃ wo : World, wo = wr := ⟨_, rfl⟩
        obtain rfl := hwo
        go_loopg [7, 9] (3 + 1) (fun g n k wi => ∃ k1 : Nat, g = 3 + 2 - k1 ∧ 0 < k1 ∧ k1 ≤ 3 + 1 ∧ n = .int .i64 (looseAcc n0 ((b.drop (j + 1)).take (k1 - 1))) ∧ k = .int .i64 k1 ∧ wi = wo)
        case atStart => exact ⟨1, rfl, by omega, by omega, rfl, rfl, rfl⟩
        case round =>
          obtain ⟨k1, hg, hk0, hk, rfl, rfl, rfl⟩ := hrel
          have HG2 := Lib.hid hg
          clear hg
          have hA : looseAcc n0 ((b.drop (j + 1)).take (k1 - 1)) < 8388608 := (HSM.out (k1 - 1) (by omega)).1
          by_cases hst : k1 ≤ 3 ∧ j + k1 < b.length
          · obtain ⟨hs1, hs2⟩ := hst
            obtain ⟨y, hyj⟩ : ∃ y, b[j + k1]? = some y := ⟨_, List.getElem?_eq_getElem hs2⟩
            have ey := HG6.out.cell (HY.out (j + k1) y hyj) (fun h => h)
            have hty : (b.drop (j + 1))[k1 - 1]? = some y := by rw [List.getElem?_drop, show j + 1 + (k1 - 1) = j + k1 from by omega]; exact hyj
            have hT := acc_take (n0 := n0) hty
            rw [show k1 - 1 + 1 = k1 from by omega] at hT
            have hylt := y.toNat_lt
            have hyw : wrap64 (y.toNat : Int) = (y.toNat : Int) := by unfold wrap64; omega
            generalize y.toNat = yy at *
            generalize looseAcc n0 ((b.drop (j + 1)).take (k1 - 1)) = A at *
            have HT := Lib.hid hT
            have r1 : (k1 : Int) ≤ 3 := by omega
            have r2 : (j : Int) + (k1 : Int) < (b.length : Int) := by omega
            have r3 : (0 : Int) ≤ (j : Int) + (k1 : Int) := by omega
            clear hyj hty hT
            go_wp2_with fail
            go_roundg (3 + 2 - (k1 + 1))
            case measure => rw [HG2.out]; omega
            case rel => exact ⟨k1 + 1, rfl, by omega, by omega, by rw [Nat.add_sub_cancel, HT.out]; go_num, by go_num, rfl⟩
          · have hAM : looseAcc n0 ((b.drop (j + 1)).take (k1 - 1)) = looseAcc n0 ((b.drop (j + 1)).take 3) := by
              by_cases hk1 : k1 ≤ 3
              · have hlen : (b.drop (j + 1)).length ≤ k1 - 1 := by rw [List.length_drop]; omega
                rw [List.take_of_length_le hlen, List.take_of_length_le (by omega)]
              · rw [show k1 - 1 = 3 from by omega]
            have hout : ((k1 : Int) ≤ 3 ∧ ¬ (j : Int) + (k1 : Int) < (b.length : Int)) ∨ ¬ (k1 : Int) ≤ 3 := by omega
            have hLC := HLC.out
            rw [hAM] at *
            generalize looseAcc n0 ((b.drop (j + 1)).take 3) = A at *
            have HLC2 := Lib.hid hLC
            clear hAM hLC HLC HSM
            by_cases hbig : 1114111 < A
            · have r4 : (1114111 : Int) < (A : Int) := by omega
              have hnone : wideR b = none := wideR_none (by rw [HL.out, HD.out, HLC2.out, if_pos hbig]; rfl)
              have HNO := Lib.hid hnone
              clear hnone
              rcases hout with ⟨r1, r2⟩ | r1
              all_goals
                go_wp2_with fail
                exact bodyPost_ret (v := .tuple #[.slice none 0 0, .bool false]) (by simp [results, Tryz.results148, go_sem]) rfl (wideOut_no HNO.out HG6.out)
            · have r4 : ¬ (1114111 : Int) < (A : Int) := by omega
              have hb0 : w.heap.size ≤ wr.heap.size := HG6.out.size
              have hvb := (Vals.of_own HO6.out).2
              obtain ⟨a7, c7, w7, hr7, ho7, F7, -⟩ := add_int HO6.out hb0 (by omega) (A : Int) wr.heap.size ((Fr.refl (S := fun _ => False) wr).alloc (.cells #[.int .i64 (A : Int)] 3)) (Blk.new wr 3 #[.int .i64 (A : Int)])
              have G7 := HG6.out.trans' F7 (fun i hi e => absurd hi (by have := hvb i e; omega))
              have HO7 := Lib.hid ho7
              have HG7 := Lib.hid G7
              have HRUN := Lib.hid hr7
              have hl2 : looseL b = (looseL (b.drop (j + 3 + 1))).map ((xs ++ [A]) ++ ·) := by
                rw [HL.out, HD.out, HLC2.out, if_neg hbig, List.drop_drop, Option.map_map, show j + 1 + 3 = j + 3 + 1 from by omega]
                congr 1
                funext l
                simp
              have HL2 := Lib.hid hl2
              have HBIG := Lib.hid hbig
              clear ho7 G7 hr7 hl2 F7 hvb hbig
              rcases hout with ⟨r1, r2⟩ | r1
              all_goals
                go_wp2_with (at_builtin; refine wpList_append_run (by rfl) (.tmp 59) (.tmp 61) 26 (by rfl) _ w7 (by exact HRUN.out) ?_)
                go_roundg (b.length + 4 - (j + 3 + 1))
                case measure => rw [HG.out]; omega
                case rel => exact ⟨xs ++ [A], j + 3 + 1, a7, xs.length + 1, c7, rfl, by omega, rfl, by go_num, (by have := HO7.out; rw [List.length_append, List.length_singleton]; simpa [natInts] using this), HL2.out, le_snoc HXS.out HBIG.out, (by rw [List.length_append, List.length_singleton]; omega), HG7.out⟩
      · have p1 : ¬ (240 : Int) ≤ (c : Int) := by omega
        have p2 : (224 : Int) ≤ (c : Int) := by omega
        go_wp2_with fail
        obtain ⟨wo, hwo⟩ : ∃ wo : World, wo = wr := ⟨_, rfl⟩
        obtain rfl := hwo
        go_loopg [7, 9] (2 + 1) (fun g n k wi => ∃ k1 : Nat, g = 2 + 2 - k1 ∧ 0 < k1 ∧ k1 ≤ 2 + 1 ∧ n = .int .i64 (looseAcc n0 ((b.drop (j + 1)).take (k1 - 1))) ∧ k = .int .i64 k1 ∧ wi = wo)
        case atStart => exact ⟨1, rfl, by omega, by omega, rfl, rfl, rfl⟩
        case round =>
          obtain ⟨k1, hg, hk0, hk, rfl, rfl, rfl⟩ := hrel
          have HG2 := Lib.hid hg
          clear hg
          have hA : looseAcc n0 ((b.drop (j + 1)).take (k1 - 1)) < 8388608 := (HSM.out (k1 - 1) (by omega)).1
          by_cases hst : k1 ≤ 2 ∧ j + k1 < b.length
          · obtain ⟨hs1, hs2⟩ := hst
            obtain ⟨y, hyj⟩ : ∃ y, b[j + k1]? = some y := ⟨_, List.getElem?_eq_getElem hs2⟩
            have ey := HG6.out.cell (HY.out (j + k1) y hyj) (fun h => h)
            have hty : (b.drop (j + 1))[k1 - 1]? = some y := by rw [List.getElem?_drop, show j + 1 + (k1 - 1) = j + k1 from by omega]; exact hyj
            have hT := acc_take (n0 := n0) hty
            rw [show k1 - 1 + 1 = k1 from by omega] at hT
            have hylt := y.toNat_lt
            have hyw : wrap64 (y.toNat : Int) = (y.toNat : Int) := by unfold wrap64; omega
            generalize y.toNat = yy at *
            generalize looseAcc n0 ((b.drop (j + 1)).take (k1 - 1)) = A at *
            have HT := Lib.hid hT
            have r1 : (k1 : Int) ≤ 2 := by omega
            have r2 : (j : Int) + (k1 : Int) < (b.length : Int) := by omega
            have r3 : (0 : Int) ≤ (j : Int) + (k1 : Int) := by omega
            clear hyj hty hT
            go_wp2_with fail
            go_roundg (2 + 2 - (k1 + 1))
            case measure => rw [HG2.out]; omega
            case rel => exact ⟨k1 + 1, rfl, by omega, by omega, by rw [Nat.add_sub_cancel, HT.out]; go_num, by go_num, rfl⟩
          · have hAM : looseAcc n0 ((b.drop (j + 1)).take (k1 - 1)) = looseAcc n0 ((b.drop (j + 1)).take 2) := by
              by_cases hk1 : k1 ≤ 2
              · have hlen : (b.drop (j + 1)).length ≤ k1 - 1 := by rw [List.length_drop]; omega
                rw [List.take_of_length_le hlen, List.take_of_length_le (by omega)]
              · rw [show k1 - 1 = 2 from by omega]
            have hout : ((k1 : Int) ≤ 2 ∧ ¬ (j : Int) + (k1 : Int) < (b.length : Int)) ∨ ¬ (k1 : Int) ≤ 2 := by omega
            have hLC := HLC.out
            rw [hAM] at *
            generalize looseAcc n0 ((b.drop (j + 1)).take 2) = A at *
            have HLC2 := Lib.hid hLC
            clear hAM hLC HLC HSM
            by_cases hbig : 1114111 < A
            · have r4 : (1114111 : Int) < (A : Int) := by omega
              have hnone : wideR b = none := wideR_none (by rw [HL.out, HD.out, HLC2.out, if_pos hbig]; rfl)
              have HNO := Lib.hid hnone
              clear hnone
              rcases hout with ⟨r1, r2⟩ | r1
              all_goals
                go_wp2_with fail
                exact bodyPost_ret (v := .tuple #[.slice none 0 0, .bool false]) (by simp [results, Tryz.results148, go_sem]) rfl (wideOut_no HNO.out HG6.out)
            · have r4 : ¬ (1114111 : Int) < (A : Int) := by omega
              have hb0 : w.heap.size ≤ wr.heap.size := HG6.out.size
              have hvb := (Vals.of_own HO6.out).2
              obtain ⟨a7, c7, w7, hr7, ho7, F7, -⟩ := add_int HO6.out hb0 (by omega) (A : Int) wr.heap.size ((Fr.refl (S := fun _ => False) wr).alloc (.cells #[.int .i64 (A : Int)] 3)) (Blk.new wr 3 #[.int .i64 (A : Int)])
              have G7 := HG6.out.trans' F7 (fun i hi e => absurd hi (by have := hvb i e; omega))
              have HO7 := Lib.hid ho7
              have HG7 := Lib.hid G7
              have HRUN := Lib.hid hr7
              have hl2 : looseL b = (looseL (b.drop (j + 2 + 1))).map ((xs ++ [A]) ++ ·) := by
                rw [HL.out, HD.out, HLC2.out, if_neg hbig, List.drop_drop, Option.map_map, show j + 1 + 2 = j + 2 + 1 from by omega]
                congr 1
                funext l
                simp
              have HL2 := Lib.hid hl2
              have HBIG := Lib.hid hbig
              clear ho7 G7 hr7 hl2 F7 hvb hbig
              rcases hout with ⟨r1, r2⟩ | r1
              all_goals
                go_wp2_with (at_builtin; refine wpList_append_run (by rfl) (.tmp 59) (.tmp 61) 26 (by rfl) _ w7 (by exact HRUN.out) ?_)
                go_roundg (b.length + 4 - (j + 2 + 1))
                case measure => rw [HG.out]; omega
                case rel => exact ⟨xs ++ [A], j + 2 + 1, a7, xs.length + 1, c7, rfl, by omega, rfl, by go_num, (by have := HO7.out; rw [List.length_append, List.length_singleton]; simpa [natInts] using this), HL2.out, le_snoc HXS.out HBIG.out, (by rw [List.length_append, List.length_singleton]; omega), HG7.out⟩
      · have p1 : ¬ (240 : Int) ≤ (c : Int) := by omega
        have p2 : ¬ (224 : Int) ≤ (c : Int) := by omega
        have p3 : (192 : Int) ≤ (c : Int) := by omega
        go_wp2_with fail
        obtain ⟨wo, hwo⟩ : ∃ wo : World, wo = wr := ⟨_, rfl⟩
        obtain rfl := hwo
        go_loopg [7, 9] (1 + 1) (fun g n k wi => ∃ k1 : Nat, g = 1 + 2 - k1 ∧ 0 < k1 ∧ k1 ≤ 1 + 1 ∧ n = .int .i64 (looseAcc n0 ((b.drop (j + 1)).take (k1 - 1))) ∧ k = .int .i64 k1 ∧ wi = wo)
        case atStart => exact ⟨1, rfl, by omega, by omega, rfl, rfl, rfl⟩
        case round =>
          obtain ⟨k1, hg, hk0, hk, rfl, rfl, rfl⟩ := hrel
          have HG2 := Lib.hid hg
          clear hg
          have hA : looseAcc n0 ((b.drop (j + 1)).take (k1 - 1)) < 8388608 := (HSM.out (k1 - 1) (by omega)).1
          by_cases hst : k1 ≤ 1 ∧ j + k1 < b.length
          · obtain ⟨hs1, hs2⟩ := hst
            obtain ⟨y, hyj⟩ : ∃ y, b[j + k1]? = some y := ⟨_, List.getElem?_eq_getElem hs2⟩
            have ey := HG6.out.cell (HY.out (j + k1) y hyj) (fun h => h)
            have hty : (b.drop (j + 1))[k1 - 1]? = some y := by rw [List.getElem?_drop, show j + 1 + (k1 - 1) = j + k1 from by omega]; exact hyj
            have hT := acc_take (n0 := n0) hty
            rw [show k1 - 1 + 1 = k1 from by omega] at hT
            have hylt := y.toNat_lt
            have hyw : wrap64 (y.toNat : Int) = (y.toNat : Int) := by unfold wrap64; omega
            generalize y.toNat = yy at *
            generalize looseAcc n0 ((b.drop (j + 1)).take (k1 - 1)) = A at *
            have HT := Lib.hid hT
            have r1 : (k1 : Int) ≤ 1 := by omega
            have r2 : (j : Int) + (k1 : Int) < (b.length : Int) := by omega
            have r3 : (0 : Int) ≤ (j : Int) + (k1 : Int) := by omega
            clear hyj hty hT
            go_wp2_with fail
            go_roundg (1 + 2 - (k1 + 1))
            case measure => rw [HG2.out]; omega
            case rel => exact ⟨k1 + 1, rfl, by omega, by omega, by rw [Nat.add_sub_cancel, HT.out]; go_num, by go_num, rfl⟩
          · have hAM : looseAcc n0 ((b.drop (j + 1)).take (k1 - 1)) = looseAcc n0 ((b.drop (j + 1)).take 1) := by
              by_cases hk1 : k1 ≤ 1
              · have hlen : (b.drop (j + 1)).length ≤ k1 - 1 := by rw [List.length_drop]; omega
                rw [List.take_of_length_le hlen, List.take_of_length_le (by omega)]
              · rw [show k1 - 1 = 1 from by omega]
            have hout : ((k1 : Int) ≤ 1 ∧ ¬ (j : Int) + (k1 : Int) < (b.length : Int)) ∨ ¬ (k1 : Int) ≤ 1 := by omega
            have hLC := HLC.out
            rw [hAM] at *
            generalize looseAcc n0 ((b.drop (j + 1)).take 1) = A at *
            have HLC2 := Lib.hid hLC
            clear hAM hLC HLC HSM
            by_cases hbig : 1114111 < A
            · have r4 : (1114111 : Int) < (A : Int) := by omega
              have hnone : wideR b = none := wideR_none (by rw [HL.out, HD.out, HLC2.out, if_pos hbig]; rfl)
              have HNO := Lib.hid hnone
              clear hnone
              rcases hout with ⟨r1, r2⟩ | r1
              all_goals
                go_wp2_with fail
                exact bodyPost_ret (v := .tuple #[.slice none 0 0, .bool false]) (by simp [results, Tryz.results148, go_sem]) rfl (wideOut_no HNO.out HG6.out)
            · have r4 : ¬ (1114111 : Int) < (A : Int) := by omega
              have hb0 : w.heap.size ≤ wr.heap.size := HG6.out.size
              have hvb := (Vals.of_own HO6.out).2
              obtain ⟨a7, c7, w7, hr7, ho7, F7, -⟩ := add_int HO6.out hb0 (by omega) (A : Int) wr.heap.size ((Fr.refl (S := fun _ => False) wr).alloc (.cells #[.int .i64 (A : Int)] 3)) (Blk.new wr 3 #[.int .i64 (A : Int)])
              have G7 := HG6.out.trans' F7 (fun i hi e => absurd hi (by have := hvb i e; omega))
              have HO7 := Lib.hid ho7
              have HG7 := Lib.hid G7
              have HRUN := Lib.hid hr7
              have hl2 : looseL b = (looseL (b.drop (j + 1 + 1))).map ((xs ++ [A]) ++ ·) := by
                rw [HL.out, HD.out, HLC2.out, if_neg hbig, List.drop_drop, Option.map_map, show j + 1 + 1 = j + 1 + 1 from by omega]
                congr 1
                funext l
                simp
              have HL2 := Lib.hid hl2
              have HBIG := Lib.hid hbig
              clear ho7 G7 hr7 hl2 F7 hvb hbig
              rcases hout with ⟨r1, r2⟩ | r1
              all_goals
                go_wp2_with (at_builtin; refine wpList_append_run (by rfl) (.tmp 59) (.tmp 61) 26 (by rfl) _ w7 (by exact HRUN.out) ?_)
                go_roundg (b.length + 4 - (j + 1 + 1))
                case measure => rw [HG.out]; omega
                case rel => exact ⟨xs ++ [A], j + 1 + 1, a7, xs.length + 1, c7, rfl, by omega, rfl, by go_num, (by have := HO7.out; rw [List.length_append, List.length_singleton]; simpa [natInts] using this), HL2.out, le_snoc HXS.out HBIG.out, (by rw [List.length_append, List.length_singleton]; omega), HG7.out⟩
      · have p1 : ¬ (240 : Int) ≤ (c : Int) := by omega
        have p2 : ¬ (224 : Int) ≤ (c : Int) := by omega
        have p3 : ¬ (192 : Int) ≤ (c : Int) := by omega
        obtain rfl : c = n0 := by omega
        clear d4
        go_wp2_with fail
        obtain ⟨wo, hwo⟩ : ∃ wo : World, wo = wr := ⟨_, rfl⟩
        obtain rfl := hwo
        go_loopg [7, 9] (0 + 1) (fun g n k wi => ∃ k1 : Nat, g = 0 + 2 - k1 ∧ 0 < k1 ∧ k1 ≤ 0 + 1 ∧ n = .int .i64 (looseAcc c ((b.drop (j + 1)).take (k1 - 1))) ∧ k = .int .i64 k1 ∧ wi = wo)
        case atStart => exact ⟨1, rfl, by omega, by omega, rfl, rfl, rfl⟩
        case round =>
          obtain ⟨k1, hg, hk0, hk, rfl, rfl, rfl⟩ := hrel
          have HG2 := Lib.hid hg
          clear hg
          have hA : looseAcc c ((b.drop (j + 1)).take (k1 - 1)) < 8388608 := (HSM.out (k1 - 1) (by omega)).1
          by_cases hst : k1 ≤ 0 ∧ j + k1 < b.length
          · exact absurd hst.1 (by omega)
          · have hAM : looseAcc c ((b.drop (j + 1)).take (k1 - 1)) = looseAcc c ((b.drop (j + 1)).take 0) := by
              by_cases hk1 : k1 ≤ 0
              · have hlen : (b.drop (j + 1)).length ≤ k1 - 1 := by rw [List.length_drop]; omega
                rw [List.take_of_length_le hlen, List.take_of_length_le (by omega)]
              · rw [show k1 - 1 = 0 from by omega]
            have r1 : ¬ (k1 : Int) ≤ 0 := by omega
            have hLC := HLC.out
            rw [hAM] at *
            generalize looseAcc c ((b.drop (j + 1)).take 0) = A at *
            have HLC2 := Lib.hid hLC
            clear hAM hLC HLC HSM
            by_cases hbig : 1114111 < A
            · have r4 : (1114111 : Int) < (A : Int) := by omega
              have hnone : wideR b = none := wideR_none (by rw [HL.out, HD.out, HLC2.out, if_pos hbig]; rfl)
              have HNO := Lib.hid hnone
              clear hnone
              all_goals
                go_wp2_with fail
                exact bodyPost_ret (v := .tuple #[.slice none 0 0, .bool false]) (by simp [results, Tryz.results148, go_sem]) rfl (wideOut_no HNO.out HG6.out)
            · have r4 : ¬ (1114111 : Int) < (A : Int) := by omega
              have hb0 : w.heap.size ≤ wr.heap.size := HG6.out.size
              have hvb := (Vals.of_own HO6.out).2
              obtain ⟨a7, c7, w7, hr7, ho7, F7, -⟩ := add_int HO6.out hb0 (by omega) (A : Int) wr.heap.size ((Fr.refl (S := fun _ => False) wr).alloc (.cells #[.int .i64 (A : Int)] 3)) (Blk.new wr 3 #[.int .i64 (A : Int)])
              have G7 := HG6.out.trans' F7 (fun i hi e => absurd hi (by have := hvb i e; omega))
              have HO7 := Lib.hid ho7
              have HG7 := Lib.hid G7
              have HRUN := Lib.hid hr7
              have hl2 : looseL b = (looseL (b.drop (j + 0 + 1))).map ((xs ++ [A]) ++ ·) := by
                rw [HL.out, HD.out, HLC2.out, if_neg hbig, List.drop_drop, Option.map_map, show j + 1 + 0 = j + 0 + 1 from by omega]
                congr 1
                funext l
                simp
              have HL2 := Lib.hid hl2
              have HBIG := Lib.hid hbig
              clear ho7 G7 hr7 hl2 F7 hvb hbig
              all_goals
                go_wp2_with (at_builtin; refine wpList_append_run (by rfl) (.tmp 59) (.tmp 61) 26 (by rfl) _ w7 (by exact HRUN.out) ?_)
                go_roundg (b.length + 4 - (j + 0 + 1))
                case measure => rw [HG.out]; omega
                case rel => exact ⟨xs ++ [A], j + 0 + 1, a7, xs.length + 1, c7, rfl, by omega, rfl, by go_num, (by have := HO7.out; rw [List.length_append, List.length_singleton]; simpa [natInts] using this), HL2.out, le_snoc HXS.out HBIG.out, (by rw [List.length_append, List.length_singleton]; omega), HG7.out⟩
    · have q2 : ¬ (j : Int) < (b.length : Int) := by omega
      have hLb : looseL b = some xs := by rw [HL.out, List.drop_of_length_le (by omega), looseL_nil]; simp
      have hW := wideR_some hLb
      have HW := Lib.hid hW
      have hv6 := (Vals.of_own HO6.out).1
      obtain ⟨a', cap', he, -, -, hz⟩ := Ints.form hv6
      rw [List.length_map] at he hz
      simp only [Value.slice.injEq] at he
      obtain ⟨rfl, rfl, rfl⟩ := he
      have HV6 := Lib.hid hv6
      have HZ := Lib.hid hz
      clear hLb hW hv6 hz HL
      go_wp2_with fail
      obtain ⟨wo, hwo⟩ : ∃ wo : World, wo = wr := ⟨_, rfl⟩
      obtain rfl := hwo
      go_loopg [10] xs.length (fun g k wi => ∃ k1 : Nat, g = xs.length - k1 ∧ k1 ≤ xs.length ∧ k = .int .i64 k1 ∧ (natInts (xs.take k1)).all (mayS 12) = true ∧ wi = wo)
      case atStart => exact ⟨0, rfl, Nat.zero_le _, rfl, rfl, rfl⟩
      case round =>
        obtain ⟨k1, hg, hk, rfl, hall, rfl⟩ := hrel
        have HG2 := Lib.hid hg
        have HALL := Lib.hid hall
        clear hg hall
        by_cases hkl : k1 < xs.length
        · obtain ⟨b8, o8, rfl, hy8⟩ := HZ.out (by omega)
          obtain ⟨n, hn⟩ : ∃ n, xs[k1]? = some n := ⟨_, List.getElem?_eq_getElem hkl⟩
          have en := hy8 k1 n (by rw [List.getElem?_map, hn]; rfl)
          have hat : (natInts (xs.take (k1 + 1))).all (mayS 12) = ((natInts (xs.take k1)).all (mayS 12) && mayS 12 (n : Int)) := by
            rw [List.take_add_one, hn]
            simp [natInts]
          have hno : mayS 12 (n : Int) = false → (natInts xs).all (mayS 12) = false := fun h => by
            rw [List.all_eq_false]
            exact ⟨(n : Int), List.mem_map.2 ⟨n, List.mem_of_getElem? hn, rfl⟩, by simp [h]⟩
          have HAT := Lib.hid hat
          have HNO := Lib.hid hno
          have r1 : (0 : Int) ≤ (k1 : Int) := by omega
          have r2 : (k1 : Int) < (xs.length : Int) := by omega
          clear hy8 hn hat hno
          rcases Bool.eq_false_or_eq_true (mayS 12 (n : Int)) with hm | hm
          · have HM := Lib.hid hm
            have HC := Lib.hid (r06May_any 12 (n : Int))
            clear hm
            go_wp2_with (first | (go_at_call 149; refine (HC.out _).mono ?_; rintro e w' ⟨rfl, rfl⟩; rw [HM.out]))
            go_roundg (xs.length - (k1 + 1))
            case measure => rw [HG2.out]; omega
            case rel => exact ⟨k1 + 1, rfl, by omega, by go_num, by rw [HAT.out, HALL.out, HM.out]; rfl, rfl⟩
          · have HM := Lib.hid hm
            have HC := Lib.hid (r06May_any 12 (n : Int))
            have hnone : wideR b = none := by rw [HW.out, if_neg]; intro h; rw [HNO.out hm] at h; exact absurd h.1 (by decide)
            have HNONE := Lib.hid hnone
            clear hm hnone
            go_wp2_with (first | (go_at_call 149; refine (HC.out _).mono ?_; rintro e w' ⟨rfl, rfl⟩; rw [HM.out]))
            exact bodyPost_ret (v := .tuple #[.slice none 0 0, .bool false]) (by simp [results, Tryz.results148, go_sem]) rfl (wideOut_no HNONE.out HG6.out)
        · have r2 : ¬ (k1 : Int) < (xs.length : Int) := by omega
          have hall : (natInts xs).all (mayS 12) = true := by
            have := HALL.out
            rwa [List.take_of_length_le (by omega)] at this
          have HU := Lib.hid (r06Utf8_any (.slice a6 xs.length c6) xs · · (fun n hn => by have := HXS.out n hn; omega) (by omega))
          have HW2 : wideR b = if encAll xs = b then some xs else none := by rw [HW.out, hall]; simp
          have HWW := Lib.hid HW2
          have hb1 : Bytes wr.drew (.slice a b.length cap) b := (HB.out.old HG6.out).old ((Fr.refl wr).drew)
          have hv1 : Ints wr.drew (.slice a6 xs.length c6) (natInts xs) := HV6.out.old ((Fr.refl wr).drew)
          have G1 : Fr (fun _ => False) w wr.drew := HG6.out.drew
          have S := str_of hb1
          have HB1 := Lib.hid hb1
          have HV1 := Lib.hid hv1
          have HG1 := Lib.hid G1
          clear hall HW2 hb1 hv1 G1 HW HB HV6 HG6 HO6 HX HZ HXS HALL HG HG2
          go_upto_region 25 with fail
          have hF0 : ∀ w5, Fr (fun _ => False) wr.drew w5 → (Go.convert 22 9 (.slice a b.length cap)).run Tryz.prog w5 = .ok (str b) w5 := fun w5 F5 => str_of (HB1.out.old F5)
          have HF0 := Lib.hid hF0
          clear hF0
          by_cases hq : encAll xs = b
          · have z1 : (encAll xs == b) = true := beq_iff_eq.2 hq
            have z2 : (encAll xs != b) = false := by rw [bne, z1]; rfl
            have HR := Lib.hid (show wideR b = some xs by rw [HWW.out, if_pos hq])
            clear hq
            go_region_with (first
              | (go_at_call 114; refine (HU.out _ HV1.out).mono ?_; rintro e w5 ⟨v5, rfl, ho5, F5⟩; obtain ⟨a5, m5, c5, rfl, rfl⟩ := own_shape ho5; have S5 := HF0.out _ F5; have C5 := str_of (Vals.of_own ho5).1))
            all_goals
              have hvv : Ints w5 (.slice a6 xs.length c6) (natInts xs) := HV1.out.old F5
              have HVV := Lib.hid hvv
              have HG5 := Lib.hid (HG1.out.trans F5)
              clear hvv F5 ho5 S S5 C5
              go_wp2_with fail
              refine bodyPost_ret (v := .tuple #[.slice a6 xs.length c6, .bool true]) (by simp [results, Tryz.results148, go_sem]) rfl ⟨_, by rw [HR.out]; rfl, by rw [HR.out]; exact HVV.out, HG5.out⟩
          · have z1 : (encAll xs == b) = false := beq_eq_false_iff_ne.2 hq
            have z2 : (encAll xs != b) = true := by rw [bne, z1]; rfl
            have HR := Lib.hid (show wideR b = none by rw [HWW.out, if_neg hq])
            clear hq
            go_region_with (first
              | (go_at_call 114; refine (HU.out _ HV1.out).mono ?_; rintro e w5 ⟨v5, rfl, ho5, F5⟩; obtain ⟨a5, m5, c5, rfl, rfl⟩ := own_shape ho5; have S5 := HF0.out _ F5; have C5 := str_of (Vals.of_own ho5).1))
            all_goals
              have HG5 := Lib.hid (HG1.out.trans F5)
              clear F5 ho5 S S5 C5
              go_wp2_with fail
              exact bodyPost_ret (v := .tuple #[.slice none 0 0, .bool false]) (by simp [results, Tryz.results148, go_sem]) rfl (wideOut_no HR.out HG5.out)
end Go.Proofs.YthjcoolefboodaaGreatDoor

namespace Go.Q
open Go Go.RowKit
def sigR (k : Int) (b : List UInt8) : Option (List Int) :=
  if kindOk k = true then
    (if k = 12 then (wideR b).map natInts else
      if k = 30 ∧ b.length % 2 = 1 then none else if (signsS k b).all (mayS k) = true then some (signsS k b) else none)
  else none
theorem sigR_ok {k : Int} {b : List UInt8} {l : List Int} (h : sigR k b = some l) : rightS k b = true ∧ signsS k b = l := by
  unfold sigR at h
  split at h
  · rename_i hk
    split at h
    · rename_i h12
      subst h12
      cases hw : wideR b with
      | none => rw [hw] at h; cases h
      | some ns =>
        rw [hw] at h
        simp only [Option.map_some, Option.some.injEq] at h
        have := wideR_ok hw
        exact ⟨this.2.2.2, this.2.2.1.trans h⟩
    · split at h
      · cases h
      · split at h
        · rename_i ha
          simp only [Option.some.injEq] at h
          exact ⟨by unfold rightS; rw [hk, ha]; rfl, h⟩
        · cases h
  · cases h
theorem pairs_snoc (x y : UInt8) : ∀ (l : List UInt8), l.length % 2 = 0 → pairsS (l ++ [x, y]) = pairsS l ++ [((x.toNat * 256 + y.toNat : Nat) : Int)]
  | [], _ => rfl
  | [_], h => by simp at h
  | a :: b :: t, h => by
    have := pairs_snoc x y t (by simp at h; omega)
    simp only [List.cons_append, pairsS, this]
theorem pairs_take {b : List UInt8} {m : Nat} {x y : UInt8} (hx : b[2 * m]? = some x) (hy : b[2 * m + 1]? = some y) : pairsS (b.take (2 * (m + 1))) = pairsS (b.take (2 * m)) ++ [((x.toNat * 256 + y.toNat : Nat) : Int)] := by
  have h1 : b.take (2 * m + 1) = b.take (2 * m) ++ [x] := by rw [List.take_add_one, hx]; rfl
  have h2 : b.take (2 * m + 2) = b.take (2 * m + 1) ++ [y] := by rw [show 2 * m + 2 = 2 * m + 1 + 1 from rfl, List.take_add_one, hy]; rfl
  rw [show 2 * (m + 1) = 2 * m + 2 from by omega, h2, h1, List.append_assoc]
  refine pairs_snoc x y _ ?_
  have := (List.getElem?_eq_some_iff.1 hx).1
  rw [List.length_take]
  omega
end Go.Q
namespace Go.Proofs.YthjcoolefboodaaGreatDoor
open Go Go.RowKit Go.Q
def RSigOut (w w' : World) (k : Int) (b : List UInt8) (e : Ending) : Prop :=
  ∃ v, e = .returned (.tuple #[v, .bool (sigR k b).isSome]) ∧ Ints w' v ((sigR k b).getD []) ∧ Fr (fun _ => False) w w'
theorem sigOut_no {w w' : World} {k : Int} {b : List UInt8} (h : sigR k b = none) (F : Fr (fun _ => False) w w') : RSigOut w w' k b (.returned (.tuple #[.slice none 0 0, .bool false])) := by
  refine ⟨_, by rw [h]; rfl, ?_, F⟩
  rw [h]
  exact Vals.nil w'
set_option maxRecDepth 20000 in
set_option maxHeartbeats 4000000 in
theorem r06Signs_12 (v : Value) (b : List UInt8) (w : World) (h : Bytes w v b) (hlim : b.length ≤ 16777216) :
    Calls Tryz.prog 113 #[.agg #[.int .i64 12, v]] w fun e w' => RSigOut w w' 12 b e := by
  obtain ⟨a, cap, rfl, -, -, hx⟩ := h.form
  have HB := Lib.hid h
  have HX := Lib.hid hx
  obtain ⟨z, hz⟩ : ∃ z, z = w.heap.size := ⟨_, rfl⟩
  have B := Blk.new w 143 #[.int .i64 12, .slice a b.length cap]
  have F0 : Fr (fun _ => False) w (w.alloc (.cells #[.int .i64 12, .slice a b.length cap] 143)) := (Fr.refl w).alloc _
  rw [← hz] at B
  have HZ := Lib.hid hz
  have HF0 := Lib.hid F0
  clear h hx hz F0
  go_enter Tryz.func113, Tryz.ntmps113
  go_upto_region 1 with fail
  rw [← HZ.out]
  generalize (w.alloc (.cells #[.int .i64 12, .slice a b.length cap] 143)) = w0 at *
  have t0 := B.cell 0
  have t1 := B.cell 1
  simp only [List.getElem?_toArray, List.getElem?_cons_succ, List.getElem?_cons_zero] at t0 t1
  have hk : Go.Q.kindOk 12 = true := rfl
  have HC := Lib.hid (r06Kind_any 12)
  have HW := Lib.hid (r06wide_any (.slice a b.length cap) b w0 (HB.out.old HF0.out) hlim)
  have hs : sigR 12 b = (wideR b).map natInts := by unfold sigR; rw [if_pos hk, if_pos rfl]
  have HS := Lib.hid hs
  have HKK := Lib.hid hk
  clear hs hk
  go_wp2_with (first | (go_at_call 147; refine (HC.out _).mono ?_; rintro e w' ⟨rfl, rfl⟩; rw [HKK.out]))
  refine HW.out.mono ?_
  rintro e w5 ⟨v5, rfl, hi5, F5⟩
  obtain ⟨a5, m5, c5, rfl⟩ : ∃ a m c, v5 = .slice a m c := by
    obtain ⟨a, c, h, -⟩ := Ints.form hi5
    exact ⟨a, _, c, h⟩
  have HI5 := Lib.hid hi5
  have HF5 := Lib.hid (HF0.out.trans F5)
  clear hi5 F5 HW HC
  go_wp2_with fail
  refine bodyPost_ret (v := .tuple #[.slice a5 m5 c5, .bool (wideR b).isSome]) (by simp [results, Tryz.results113, go_sem]) rfl (show RSigOut w w5 12 b _ from ⟨.slice a5 m5 c5, ?_, ?_, HF5.out⟩)
  · rw [HS.out]
    cases wideR b <;> rfl
  · have := HI5.out
    rw [HS.out]
    cases hw : wideR b with
    | none => rw [hw] at this; exact this
    | some ns => rw [hw] at this; exact this
set_option maxRecDepth 20000 in
set_option maxHeartbeats 4000000 in
theorem r06Signs_none (k : Int) (hk : Go.Q.kindOk k = false) (v : Value) (b : List UInt8) (w : World) (h : Bytes w v b) (_hlim : b.length ≤ 16777216) :
    Calls Tryz.prog 113 #[.agg #[.int .i64 k, v]] w fun e w' => RSigOut w w' k b e := by
  obtain ⟨a, cap, rfl, -, -, hx⟩ := h.form
  have HB := Lib.hid h
  have HX := Lib.hid hx
  obtain ⟨z, hz⟩ : ∃ z, z = w.heap.size := ⟨_, rfl⟩
  have B := Blk.new w 143 #[.int .i64 k, .slice a b.length cap]
  have F0 : Fr (fun _ => False) w (w.alloc (.cells #[.int .i64 k, .slice a b.length cap] 143)) := (Fr.refl w).alloc _
  rw [← hz] at B
  have HZ := Lib.hid hz
  have HF0 := Lib.hid F0
  clear h hx hz F0
  go_enter Tryz.func113, Tryz.ntmps113
  go_upto_region 1 with fail
  rw [← HZ.out]
  generalize (w.alloc (.cells #[.int .i64 k, .slice a b.length cap] 143)) = w0 at *
  have t0 := B.cell 0
  have t1 := B.cell 1
  simp only [List.getElem?_toArray, List.getElem?_cons_succ, List.getElem?_cons_zero] at t0 t1
  have HC := Lib.hid (r06Kind_any k)
  have hn : sigR k b = none := by unfold sigR; rw [hk]; rfl
  have HN := Lib.hid hn
  have HKK := Lib.hid hk
  clear hn hk
  go_wp2_with (first | (go_at_call 147; refine (HC.out _).mono ?_; rintro e w' ⟨rfl, rfl⟩; rw [HKK.out]))
  exact bodyPost_ret (v := .tuple #[.slice none 0 0, .bool false]) (by simp [results, Tryz.results113, go_sem]) rfl (sigOut_no HN.out HF0.out)
end Go.Proofs.YthjcoolefboodaaGreatDoor
