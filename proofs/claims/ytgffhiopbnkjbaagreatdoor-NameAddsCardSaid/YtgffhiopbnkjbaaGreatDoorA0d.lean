/-
  The reference of the layer 6: what is right is read: plain laws. The reference of the layer 6: Signs, the walk of pairs. The reference of the layer 6: Signs, the walk of single bytes. The reference of the layer 6: Signs. The reference of the layer 2: Of, Bytes, Length, Wrap. The reference of the layer 14: Of. The reference of the layer 2: ReadTag, ReadLength, Read. The reference of the layer 2: ReadLength. The reference of the layer 2: Read. What is read of tags and lengths lies within: plain laws. The reference of the layer 6: Read, of any kind. The reference of the layer 8: Wholes. The reference's digits to the base 128: a plain law; setting a cell of a row of one's own. The reference of the layer 4: digits, Contents, Whole. The reference of the layer 14: Whole. The reference of the layer 14: Step, Right. The reference's numbers: plain laws: bytes of a number, its digits to the base 10. The reference of the layer 3: Of, Made, Text at small numbers. The reference of the layer 3: Text at small numbers. The reference of the layer 4: Text. The reference's folding of signs: plain laws: cut at both ends, and a blank where blanks begin. The reference of the layer 13: blank, Signs. The reference of the layer 13: Key. The reference of the layer 1: Hex. The reference of the layer 14: Text, partKey. Names of texts, and steps behind: plain laws. The walk of the names' example.
-/
import Derived.Test.YtgffhiopbnkjbaaGreatDoorA0c
import Derived.Test.YtgffhiopbnkjbaaGreatDoorA0a
import Derived.Test.YtgffhiopbnkjbaaGreatDoorA0b
import Derived.Deep.RegionLaw
import Derived.Lib.ItoaNum
import Derived.Deep.CutBlock
import Derived.Deep.CutRange
import Derived.Deep.Cut
namespace Go.Q
open Go Go.RowKit
theorem decN_cases {n b0 b1 b2 b3 v m : Nat} (h : Lib.decodeN n b0 b1 b2 b3 = (v, m)) (hs : ¬ (v = 65533 ∧ m ≤ 1)) (h0 : b0 < 256) (h1 : b1 < 256) (_ : b2 < 256) (_ : b3 < 256) :
    (m = 1 ∧ v = b0 ∧ v < 128) ∨ (m = 2 ∧ 1 < n ∧ 128 ≤ v ∧ v < 2048 ∧ b0 = 192 + v / 64 ∧ b1 = 128 + v % 64) ∨
    (m = 3 ∧ 2 < n ∧ 2048 ≤ v ∧ v < 65536 ∧ ¬ (55296 ≤ v ∧ v ≤ 57343) ∧ b0 = 224 + v / 4096 ∧ b1 = 128 + v / 64 % 64 ∧ b2 = 128 + v % 64) ∨
    (m = 4 ∧ 3 < n ∧ 65536 ≤ v ∧ v ≤ 1114111 ∧ b0 = 240 + v / 262144 ∧ b1 = 128 + v / 4096 % 64 ∧ b2 = 128 + v / 64 % 64 ∧ b3 = 128 + v % 64) := by
  unfold Lib.decodeN at h
  split at h
  · simp only [Prod.mk.injEq] at h
    exact .inl ⟨by omega, by omega, by omega⟩
  split at h
  · split at h
    · simp only [Prod.mk.injEq] at h
      exact .inr (.inl ⟨by omega, by omega, by omega, by omega, by omega, by omega⟩)
    · simp only [Prod.mk.injEq] at h
      exact absurd ⟨h.1.symm, by omega⟩ hs
  split at h
  · split at h
    · simp only [Prod.mk.injEq] at h
      exact .inr (.inr (.inl ⟨by omega, by omega, by omega, by omega, by omega, by omega, by omega, by omega⟩))
    · simp only [Prod.mk.injEq] at h
      exact absurd ⟨h.1.symm, by omega⟩ hs
  split at h
  · split at h
    · simp only [Prod.mk.injEq] at h
      exact .inr (.inr (.inr ⟨by omega, by omega, by omega, by omega, by omega, by omega, by omega, by omega⟩))
    · simp only [Prod.mk.injEq] at h
      exact absurd ⟨h.1.symm, by omega⟩ hs
  · simp only [Prod.mk.injEq] at h
    exact absurd ⟨h.1.symm, by omega⟩ hs
theorem u8_of {x : UInt8} {n : Nat} (h : x.toNat = n) : x = UInt8.ofNat n := by
  subst h
  exact (UInt8.ofNat_toNat).symm
/-- What is decoded was encoded. -/
theorem dec_strict {l : List UInt8} (hl : l ≠ []) (hs : ¬ ((decS l).1 = 65533 ∧ (decS l).2 ≤ 1)) : ∃ n rest, okSign n ∧ l = enc n ++ rest ∧ (decS l).1 = n ∧ (decS l).2 = (enc n).length := by
  obtain ⟨v, m, hvm⟩ : ∃ v m, decS l = (v, m) := ⟨_, _, rfl⟩
  have g : ∀ x : UInt8, x.toNat < 256 := fun x => x.toNat_lt
  have hc := decN_cases (by exact hvm) (by rw [hvm] at hs; exact hs) (g _) (g _) (g _) (g _)
  rw [hvm]
  rcases hc with ⟨rfl, h1, h2⟩ | ⟨rfl, h1, h2, h3, h4, h5⟩ | ⟨rfl, h1, h2, h3, h4, h5, h6, h7⟩ | ⟨rfl, h1, h2, h3, h4, h5, h6, h7⟩
  · have he : enc v = [UInt8.ofNat v] := by unfold enc; rw [if_pos h2]
    match l, hl with
    | x :: t, _ =>
      simp only [List.getD_cons_zero] at h1
      exact ⟨v, t, ⟨by omega, by omega⟩, by rw [he, u8_of h1.symm]; rfl, rfl, by rw [he]; rfl⟩
  · have he : enc v = [UInt8.ofNat (192 + v / 64), UInt8.ofNat (128 + v % 64)] := by unfold enc; rw [if_neg (by omega), if_pos h3]
    match l, h1 with
    | x :: y :: t, _ =>
      simp only [List.getD_cons_zero, List.getD_cons_succ] at h4 h5
      exact ⟨v, t, ⟨by omega, by omega⟩, by rw [he, u8_of h4, u8_of h5]; rfl, rfl, by rw [he]; rfl⟩
  · have he : enc v = [UInt8.ofNat (224 + v / 4096), UInt8.ofNat (128 + v / 64 % 64), UInt8.ofNat (128 + v % 64)] := by unfold enc; rw [if_neg (by omega), if_neg (by omega), if_pos h3]
    match l, h1 with
    | x :: y :: z :: t, _ =>
      simp only [List.getD_cons_zero, List.getD_cons_succ] at h5 h6 h7
      exact ⟨v, t, ⟨by omega, h4⟩, by rw [he, u8_of h5, u8_of h6, u8_of h7]; rfl, rfl, by rw [he]; rfl⟩
  · have he : enc v = [UInt8.ofNat (240 + v / 262144), UInt8.ofNat (128 + v / 4096 % 64), UInt8.ofNat (128 + v / 64 % 64), UInt8.ofNat (128 + v % 64)] := by unfold enc; rw [if_neg (by omega), if_neg (by omega), if_neg (by omega)]
    match l, h1 with
    | x :: y :: z :: u :: t, _ =>
      simp only [List.getD_cons_zero, List.getD_cons_succ] at h4 h5 h6 h7
      exact ⟨v, t, ⟨by omega, by omega⟩, by rw [he, u8_of h4, u8_of h5, u8_of h6, u8_of h7]; rfl, rfl, by rw [he]; rfl⟩
/-- What is encoded is read by the reference. -/
theorem loose_enc {n : Nat} (h : okSign n) (rest : List UInt8) : looseL (enc n ++ rest) = (looseL rest).map (n :: ·) := by
  obtain ⟨h1, h2⟩ := h
  have key : ∀ (x : UInt8) (t : List UInt8) (n0 more : Nat), looseHead x.toNat = (n0, more) → t.length = more → looseAcc n0 t = n → enc n = x :: t → looseL (enc n ++ rest) = (looseL rest).map (n :: ·) := by
    intro x t n0 more hh ht ha he
    rw [he, List.cons_append, looseL_cons hh, ← ht, List.take_left, List.drop_left, ha, if_neg (by omega)]
  by_cases c1 : n < 128
  · have e1 := u8 n (by omega)
    exact key (UInt8.ofNat n) [] n 0 (by rw [e1]; unfold looseHead; rw [if_neg (by omega), if_neg (by omega), if_neg (by omega)]) rfl rfl (by unfold enc; rw [if_pos c1])
  by_cases c2 : n < 2048
  · have e1 := u8 (192 + n / 64) (by omega)
    have e2 := u8 (128 + n % 64) (by omega)
    exact key _ [UInt8.ofNat (128 + n % 64)] (n / 64) 1 (by rw [e1]; unfold looseHead; rw [if_neg (by omega), if_neg (by omega), if_pos (by omega)]; simp) rfl (by simp only [looseAcc, List.foldl_cons, List.foldl_nil, e2]; omega) (by unfold enc; rw [if_neg c1, if_pos c2])
  by_cases c3 : n < 65536
  · have e1 := u8 (224 + n / 4096) (by omega)
    have e2 := u8 (128 + n / 64 % 64) (by omega)
    have e3 := u8 (128 + n % 64) (by omega)
    exact key _ [UInt8.ofNat (128 + n / 64 % 64), UInt8.ofNat (128 + n % 64)] (n / 4096) 2 (by rw [e1]; unfold looseHead; rw [if_neg (by omega), if_pos (by omega)]; simp) rfl (by simp only [looseAcc, List.foldl_cons, List.foldl_nil, e2, e3]; omega) (by unfold enc; rw [if_neg c1, if_neg c2, if_pos c3])
  · have e1 := u8 (240 + n / 262144) (by omega)
    have e2 := u8 (128 + n / 4096 % 64) (by omega)
    have e3 := u8 (128 + n / 64 % 64) (by omega)
    have e4 := u8 (128 + n % 64) (by omega)
    exact key _ [UInt8.ofNat (128 + n / 4096 % 64), UInt8.ofNat (128 + n / 64 % 64), UInt8.ofNat (128 + n % 64)] (n / 262144) 3 (by rw [e1]; unfold looseHead; rw [if_pos (by omega)]; simp) rfl (by simp only [looseAcc, List.foldl_cons, List.foldl_nil, e2, e3, e4]; omega) (by unfold enc; rw [if_neg c1, if_neg c2, if_neg c3])
theorem loose_all : ∀ ns : List Nat, (∀ n ∈ ns, okSign n) → looseL (encAll ns) = some ns
  | [], _ => rfl
  | n :: t, h => by
    have e : encAll (n :: t) = enc n ++ encAll t := by simp [encAll]
    rw [e, loose_enc (h n (by simp)), loose_all t (fun m hm => h m (by simp [hm]))]
    rfl
theorem wide_strict : ∀ (f : Nat) (b : List UInt8), b.length ≤ f → (wideS f b).all (mayS 12) = true → ∃ ns : List Nat, (∀ n ∈ ns, okSign n) ∧ b = encAll ns ∧ wideS f b = natInts ns
  | f, [], _, _ => ⟨[], fun n hn => absurd hn List.not_mem_nil, rfl, by cases f <;> rfl⟩
  | 0, x :: t, h, _ => by simp at h
  | f + 1, x :: t, h, ha => by
    simp only [wideS, List.all_cons, Bool.and_eq_true] at ha
    obtain ⟨h1, h2⟩ := ha
    have hs : ¬ ((decS (x :: t)).1 = 65533 ∧ (decS (x :: t)).2 ≤ 1) := fun hc => by
      rw [if_pos hc] at h1
      simp [mayS] at h1
    obtain ⟨n, rest, hn, he, hd1, hd2⟩ := dec_strict (List.cons_ne_nil x t) hs
    have hp := enc_pos n
    have hlen : (enc n).length + rest.length = t.length + 1 := by
      have := congrArg List.length he
      simpa [List.length_append] using this.symm
    have hdrop : (x :: t).drop (decS (x :: t)).2 = rest := by rw [hd2, he, List.drop_left]
    rw [hdrop] at h2
    obtain ⟨ns, g1, g2, g3⟩ := wide_strict f rest (by simp at h; omega) h2
    refine ⟨n :: ns, fun m hm => ?_, ?_, ?_⟩
    · rcases List.mem_cons.1 hm with rfl | hm
      · exact hn
      · exact g1 m hm
    · rw [he, g2]; simp [encAll]
    · simp only [wideS]
      rw [if_neg hs, hdrop, hd1, g3]
      rfl
/-- What is right is read. -/
theorem sigR_right {k : Int} {b : List UInt8} (h : rightS k b = true) : sigR k b = some (signsS k b) := by
  have hr := h
  unfold rightS at h
  rw [Bool.and_eq_true] at h
  obtain ⟨hk, ha⟩ := h
  unfold sigR
  rw [if_pos hk]
  by_cases h12 : k = 12
  · subst h12
    rw [if_pos rfl]
    have ha2 : (wideS b.length b).all (mayS 12) = true := ha
    obtain ⟨ns, g1, g2, g3⟩ := wide_strict b.length b (Nat.le_refl _) ha2
    have hs : signsS 12 b = natInts ns := g3
    have hw : wideR b = some ns := by
      rw [wideR_some (ns := ns) (by rw [g2]; exact loose_all ns g1), if_pos ⟨by rw [← hs]; exact ha, g2.symm⟩]
    rw [hw, hs]
    rfl
  · rw [if_neg h12]
    by_cases h30 : k = 30 ∧ b.length % 2 = 1
    · exfalso
      obtain ⟨rfl, ho⟩ := h30
      have : ∀ l : List UInt8, l.length % 2 = 1 → (-1 : Int) ∈ pairsS l := by
        intro l
        induction hn : l.length using Nat.strongRecOn generalizing l with
        | _ n ih =>
          intro hl
          match l, hl with
          | [x], _ => simp [pairsS]
          | x :: y :: t, hl =>
            simp only [pairsS, List.mem_cons]
            have hl2 : n % 2 = 1 := hl
            have hn2 : t.length + 1 + 1 = n := hn
            exact .inr (ih t.length (by omega) t rfl (by omega))
      have hm := this b ho
      have hs : signsS 30 b = pairsS b := rfl
      rw [hs] at ha
      have := List.all_eq_true.1 ha _ hm
      exact absurd this (by decide)
    · rw [if_neg h30, if_pos ha]
theorem sigR_iff (k : Int) (b : List UInt8) : sigR k b = if rightS k b = true then some (signsS k b) else none := by
  by_cases h : rightS k b = true
  · rw [if_pos h, sigR_right h]
  · rw [if_neg h]
    cases hs : sigR k b with
    | none => rfl
    | some l => exact absurd (sigR_ok hs).1 h
end Go.Q

namespace Go.Proofs.YtgffhiopbnkjbaaGreatDoor
open Go Go.RowKit Go.Q
set_option maxRecDepth 20000 in
set_option maxHeartbeats 4000000 in
theorem r06Signs_30 (v : Value) (b : List UInt8) (w : World) (h : Bytes w v b) (hlim : b.length ≤ 16777216) :
    Calls Tryz.prog 9 #[.agg #[.int .i64 30, v]] w fun e w' => RSigOut w w' 30 b e := by
  obtain ⟨a, cap, rfl, -, -, hx⟩ := h.form
  have HB := Lib.hid h
  have HX := Lib.hid hx
  obtain ⟨z, hz⟩ : ∃ z, z = w.heap.size := ⟨_, rfl⟩
  have B := Blk.new w 25 #[.int .i64 30, .slice a b.length cap]
  have F0 : Fr (fun _ => False) w (w.alloc (.cells #[.int .i64 30, .slice a b.length cap] 25)) := (Fr.refl w).alloc _
  rw [← hz] at B
  have HZ := Lib.hid hz
  have HF0 := Lib.hid F0
  clear h hx hz F0
  go_enter Tryz.func9, Tryz.ntmps9
  go_upto_region 1 with fail
  rw [← HZ.out]
  generalize (w.alloc (.cells #[.int .i64 30, .slice a b.length cap] 25)) = w0 at *
  have t0 := B.cell 0
  have t1 := B.cell 1
  simp only [List.getElem?_toArray, List.getElem?_cons_succ, List.getElem?_cons_zero] at t0 t1
  have hk : Go.Q.kindOk 30 = true := rfl
  have HC := Lib.hid (r06Kind_any 30)
  have p12 : ((30 : Int) == 12) = false := rfl
  have HKK := Lib.hid hk
  have hP : signsS 30 b = pairsS b := rfl
  by_cases hodd : b.length % 2 = 1
  · have z1 : ((b.length : Int) % 2 == 1) = true := beq_iff_eq.2 (by omega)
    have z2 : (b.length % 2 == 1) = true := beq_iff_eq.2 hodd
    have hn : sigR 30 b = none := by unfold sigR; rw [if_pos hk, if_neg (by decide), if_pos ⟨rfl, hodd⟩]
    have HN := Lib.hid hn
    clear hn hk hP
    go_wp2_with (first | (go_at_call 47; refine (HC.out _).mono ?_; rintro e w' ⟨rfl, rfl⟩; rw [HKK.out]))
    exact bodyPost_ret (v := .tuple #[.slice none 0 0, .bool false]) (by simp [results, Tryz.results9, go_sem]) rfl (sigOut_no HN.out HF0.out)
  · have z1 : ((b.length : Int) % 2 == 1) = false := beq_eq_false_iff_ne.2 (by omega)
    have z2 : (b.length % 2 == 1) = false := beq_eq_false_iff_ne.2 hodd
    have HP := Lib.hid hP
    have HB0 := Lib.hid B
    clear hk hP
    go_wp2_with (first | (go_at_call 47; refine (HC.out _).mono ?_; rintro e w' ⟨rfl, rfl⟩; rw [HKK.out]))
    clear t0 t1
    go_loopg [4, 5] b.length (fun g l i wr => ∃ (j : Nat) (a6 : Option Addr) (n6 c6 : Nat), g = b.length - j ∧ j ≤ b.length ∧ j % 2 = 0 ∧ l = .slice a6 n6 c6 ∧ i = .int .i64 j ∧ wr.ownsRow (z + 1) 3 1 (.slice a6 n6 c6) n6 (intCells (pairsS (b.take j))) ∧ Fr (fun _ => False) w wr ∧ Blk wr z 25 #[.int .i64 30, .slice a b.length cap] ∧ 2 * n6 = j)
    case atStart => exact ⟨0, none, 0, 0, rfl, Nat.zero_le _, rfl, rfl, rfl, ⟨rfl, .inl ⟨rfl, rfl⟩⟩, HF0.out, HB0.out, rfl⟩
    case round =>
      obtain ⟨j, a6, N6, c6, hg, hj, hj2, rfl, rfl, ho6, G6, B, hN6⟩ := hrel
      have HG := Lib.hid hg
      have HO6 := Lib.hid ho6
      have HG6 := Lib.hid G6
      have t0 := B.cell 0
      have t1 := B.cell 1
      simp only [List.getElem?_toArray, List.getElem?_cons_succ, List.getElem?_cons_zero] at t0 t1
      clear hg ho6 G6
      by_cases hjl : j < b.length
      · obtain ⟨bb, oo, rfl, hy⟩ := HX.out (by omega)
        obtain ⟨x, hxj⟩ : ∃ x, b[j]? = some x := ⟨_, List.getElem?_eq_getElem hjl⟩
        obtain ⟨y, hyj⟩ : ∃ y, b[j + 1]? = some y := ⟨_, List.getElem?_eq_getElem (by omega)⟩
        have e1 := HG6.out.cell (hy j x hxj) (fun h => h)
        have e2 := HG6.out.cell (hy (j + 1) y hyj) (fun h => h)
        have hT : pairsS (b.take (j + 2)) = pairsS (b.take j) ++ [256 * (x.toNat : Int) + (y.toNat : Int)] := by
          obtain ⟨m, rfl⟩ : ∃ m, j = 2 * m := ⟨j / 2, by omega⟩
          have := pairs_take hxj hyj
          rw [show 2 * (m + 1) = 2 * m + 2 from by omega] at this
          rw [this]
          congr 2
          omega
        have hx1 := x.toNat_lt
        have hx2 := y.toNat_lt
        generalize x.toNat = xx at *
        generalize y.toNat = yy at *
        have w1 : wrap64 (xx : Int) = (xx : Int) := by unfold wrap64; omega
        have w2 : wrap64 (yy : Int) = (yy : Int) := by unfold wrap64; omega
        have HT := Lib.hid hT
        have r1 : (0 : Int) ≤ (j : Int) := by omega
        have r2 : (j : Int) < (b.length : Int) := by omega
        have r3 : (j : Int) + 1 < (b.length : Int) := by omega
        have r4 : (0 : Int) ≤ (j : Int) + 1 := by omega
        have r5 : ((j : Int) + 1).toNat = j + 1 := by omega
        have v1 : IntKind.i64.wrap ((j : Int) + 1) = (j : Int) + 1 := by rw [IntKind.wrap_i64]; omega
        have v2 : IntKind.i64.wrap (256 * (xx : Int)) = 256 * (xx : Int) := by rw [IntKind.wrap_i64]; omega
        have v3 : IntKind.i64.wrap (256 * (xx : Int) + (yy : Int)) = 256 * (xx : Int) + (yy : Int) := by rw [IntKind.wrap_i64]; omega
        have v4 : IntKind.i64.wrap (xx : Int) = (xx : Int) := by rw [IntKind.wrap_i64]; omega
        have v5 : IntKind.i64.wrap (yy : Int) = (yy : Int) := by rw [IntKind.wrap_i64]; omega
        have hb0 : z + 1 ≤ wr.heap.size := B.lt
        have hvb := (Vals.of_own HO6.out).2
        obtain ⟨a7, c7, w7, hr7, ho7, F7, -⟩ := add_int HO6.out hb0 (by omega) (256 * (xx : Int) + (yy : Int)) wr.heap.size (((Fr.refl (S := fun _ => False) wr).drew).alloc (.cells #[.int .i64 (256 * (xx : Int) + (yy : Int))] 3)) (Blk.new wr.drew 3 #[.int .i64 (256 * (xx : Int) + (yy : Int))])
        have G7 := HG6.out.trans' F7 (fun i hi e => absurd hi (by have := hvb i e; have := HZ.out; omega))
        have B7 := B.fr F7 (fun e => by have := hvb z e; omega)
        rw [← HT.out] at ho7
        have HO7 := Lib.hid ho7
        have HG7 := Lib.hid G7
        have HB7 := Lib.hid B7
        have HRUN := Lib.hid hr7
        clear ho7 G7 B7 hr7 F7 hvb hT hxj hyj hy B
        go_wp2_with fail
        go_region_law (first | (refine step_append_run (by rfl) (.tmp 35) (.tmp 51) 22 (by rfl) _ w7 (by exact HRUN.out) ?_) | fail)
        all_goals
          go_wp2_with fail
          go_roundg (b.length - (j + 2))
          case measure => rw [HG.out]; omega
          case rel => exact ⟨j + 2, a7, N6 + 1, c7, rfl, by omega, by omega, rfl, by go_num, HO7.out, HG7.out, HB7.out, by omega⟩
      · obtain rfl : j = b.length := by omega
        rw [List.take_length] at HO6
        have r2 : ¬ (b.length : Int) < (b.length : Int) := by omega
        obtain ⟨L, hL⟩ : ∃ L, L = signsS 30 b := ⟨_, rfl⟩
        have hsig : sigR 30 b = if L.all (mayS 30) = true then some L else none := by rw [hL]; unfold sigR; rw [if_pos HKK.out, if_neg (by decide), if_neg (fun h => hodd h.2)]
        have hoL := HO6.out
        rw [← HP.out, ← hL] at hoL
        have h2N := hN6
        clear hL hN6
        have hN6 : N6 = L.length := by have := hoL.1; rw [intCells_len] at this; omega
        subst hN6
        have hv6 := (Vals.of_own hoL).1
        obtain ⟨a', cap', he, -, -, hz6⟩ := Ints.form hv6
        simp only [Value.slice.injEq, true_and] at he
        obtain ⟨rfl, rfl⟩ := he
        have HSIG := Lib.hid hsig
        have HV6 := Lib.hid hv6
        have HZ6 := Lib.hid hz6
        have HBK := Lib.hid B
        clear hsig hv6 hz6 hoL HX HG HO6 HB
        go_wp2_with fail
        obtain ⟨wo, hwo⟩ : ∃ wo : World, wo = wr := ⟨_, rfl⟩
        obtain rfl := hwo
        go_loopg [7] L.length (fun g q wi => ∃ k1 : Nat, g = L.length - k1 ∧ k1 ≤ L.length ∧ q = .int .i64 k1 ∧ (L.take k1).all (mayS 30) = true ∧ Fr (fun _ => False) wo wi)
        case atStart => exact ⟨0, rfl, Nat.zero_le _, rfl, rfl, Fr.refl _⟩
        case round =>
          obtain ⟨k1, hg, hk1, rfl, hall, F8⟩ := hrel
          have HG2 := Lib.hid hg
          have HALL := Lib.hid hall
          have B8 := HBK.out.fr F8 (fun h => h)
          have HF8 := Lib.hid F8
          have t0 := B8.cell 0
          have t1 := B8.cell 1
          simp only [List.getElem?_toArray, List.getElem?_cons_succ, List.getElem?_cons_zero] at t0 t1
          clear hg hall
          by_cases hkl : k1 < L.length
          · obtain ⟨b8, o8, rfl, hy8⟩ := HZ6.out (by omega)
            obtain ⟨n, hn⟩ : ∃ n, L[k1]? = some n := ⟨_, List.getElem?_eq_getElem hkl⟩
            have en := F8.cell (hy8 k1 n hn) (fun h => h)
            have hat : (L.take (k1 + 1)).all (mayS 30) = ((L.take k1).all (mayS 30) && mayS 30 n) := by
              rw [List.take_add_one, hn]
              simp
            have hno : mayS 30 n = false → L.all (mayS 30) = false := fun h => by
              rw [List.all_eq_false]
              exact ⟨n, List.mem_of_getElem? hn, by simp [h]⟩
            have HAT := Lib.hid hat
            have HNO := Lib.hid hno
            have r1 : (0 : Int) ≤ (k1 : Int) := by omega
            have r2 : (k1 : Int) < (L.length : Int) := by omega
            clear hy8 hn hat hno F8
            rcases Bool.eq_false_or_eq_true (mayS 30 n) with hm | hm
            · have hC : ∀ w, Calls Tryz.prog 49 #[.int .i64 30, .int .i64 n] w fun e w' => e = .returned (.bool true) ∧ w' = w := fun w => (r06May_any 30 n w).mono (by rintro e w' ⟨rfl, rfl⟩; exact ⟨by rw [hm], rfl⟩)
              have HC := Lib.hid hC
              have HM := Lib.hid hm
              clear hm hC
              go_wp2_with fail
              go_quiet ((go_at_call 49; exact Calls.quiet_of_same (HC.out _)))
              go_wp2_with fail
              go_roundg (L.length - (k1 + 1))
              case measure => rw [HG2.out]; omega
              case rel => exact ⟨k1 + 1, rfl, by omega, by go_num, by rw [HAT.out, HALL.out, HM.out]; rfl, HF8.out.drewN _⟩
            · have hC : ∀ w, Calls Tryz.prog 49 #[.int .i64 30, .int .i64 n] w fun e w' => e = .returned (.bool false) ∧ w' = w := fun w => (r06May_any 30 n w).mono (by rintro e w' ⟨rfl, rfl⟩; exact ⟨by rw [hm], rfl⟩)
              have HC := Lib.hid hC
              have hnone : sigR 30 b = none := by rw [HSIG.out, if_neg]; intro h; rw [HNO.out hm] at h; exact absurd h (by decide)
              have HNONE := Lib.hid hnone
              clear hm hnone hC
              go_wp2_with fail
              go_quiet ((go_at_call 49; exact Calls.quiet_of_same (HC.out _)))
              go_wp2_with fail
              exact bodyPost_ret (v := .tuple #[.slice none 0 0, .bool false]) (by simp [results, Tryz.results9, go_sem]) rfl (sigOut_no HNONE.out ((HG6.out.trans HF8.out).drewN _))
          · have r2 : ¬ (k1 : Int) < (L.length : Int) := by omega
            have hsome : sigR 30 b = some L := by
              have := HALL.out
              rw [List.take_of_length_le (by omega)] at this
              rw [HSIG.out, if_pos this]
            have HSOME := Lib.hid hsome
            have hvv : Ints wr (.slice a6 L.length c6) L := HV6.out.old F8
            have HVV := Lib.hid hvv
            clear hsome hvv F8
            go_wp2_with fail
            exact bodyPost_ret (v := .tuple #[.slice a6 L.length c6, .bool true]) (by simp [results, Tryz.results9, go_sem]) rfl ⟨_, by rw [HSOME.out]; rfl, by rw [HSOME.out]; exact HVV.out, HG6.out.trans HF8.out⟩
end Go.Proofs.YtgffhiopbnkjbaaGreatDoor

namespace Go.Proofs.YtgffhiopbnkjbaaGreatDoor
open Go Go.RowKit Go.Q
set_option maxRecDepth 20000 in
set_option maxHeartbeats 4000000 in
theorem r06Signs_one (k : Int) (hk : Go.Q.kindOk k = true) (h12 : k ≠ 12) (h30 : k ≠ 30) (v : Value) (b : List UInt8) (w : World) (h : Bytes w v b) (hlim : b.length ≤ 16777216) :
    Calls Tryz.prog 9 #[.agg #[.int .i64 k, v]] w fun e w' => RSigOut w w' k b e := by
  obtain ⟨a, cap, rfl, -, -, hx⟩ := h.form
  have HB := Lib.hid h
  have HX := Lib.hid hx
  obtain ⟨z, hz⟩ : ∃ z, z = w.heap.size := ⟨_, rfl⟩
  have B := Blk.new w 25 #[.int .i64 k, .slice a b.length cap]
  have F0 : Fr (fun _ => False) w (w.alloc (.cells #[.int .i64 k, .slice a b.length cap] 25)) := (Fr.refl w).alloc _
  rw [← hz] at B
  have HZ := Lib.hid hz
  have HF0 := Lib.hid F0
  clear h hx hz F0
  go_enter Tryz.func9, Tryz.ntmps9
  go_upto_region 1 with fail
  rw [← HZ.out]
  generalize (w.alloc (.cells #[.int .i64 k, .slice a b.length cap] 25)) = w0 at *
  have t0 := B.cell 0
  have t1 := B.cell 1
  simp only [List.getElem?_toArray, List.getElem?_cons_succ, List.getElem?_cons_zero] at t0 t1
  have HC := Lib.hid (r06Kind_any k)
  have p12 : (k == 12) = false := beq_eq_false_iff_ne.2 h12
  have HKK := Lib.hid hk
  have p30 : (k == 30) = false := beq_eq_false_iff_ne.2 h30
  have HB0 := Lib.hid B
  have hP : signsS k b = b.map (fun x => (x.toNat : Int)) := by unfold signsS; rw [if_neg h12, if_neg h30]
  have HP := Lib.hid hP
  clear hk hP
  go_wp2_with (first | (go_at_call 47; refine (HC.out _).mono ?_; rintro e w' ⟨rfl, rfl⟩; rw [HKK.out]))
  clear t0 t1
  go_loopg [4, 6] b.length (fun g l i wr => ∃ (j : Nat) (a6 : Option Addr) (c6 : Nat), g = b.length - j ∧ j ≤ b.length ∧ l = .slice a6 j c6 ∧ i = .int .i64 j ∧ wr.ownsRow (z + 1) 3 1 (.slice a6 j c6) j (intCells ((b.take j).map (fun x => (x.toNat : Int)))) ∧ Fr (fun _ => False) w wr ∧ Blk wr z 25 #[.int .i64 k, .slice a b.length cap])
  case atStart => exact ⟨0, none, 0, rfl, Nat.zero_le _, rfl, rfl, ⟨rfl, .inl ⟨rfl, rfl⟩⟩, HF0.out, HB0.out⟩
  case round =>
    obtain ⟨j, a6, c6, hg, hj, rfl, rfl, ho6, G6, B⟩ := hrel
    have HG := Lib.hid hg
    have HO6 := Lib.hid ho6
    have HG6 := Lib.hid G6
    have t0 := B.cell 0
    have t1 := B.cell 1
    simp only [List.getElem?_toArray, List.getElem?_cons_succ, List.getElem?_cons_zero] at t0 t1
    clear hg ho6 G6
    by_cases hjl : j < b.length
    · obtain ⟨bb, oo, rfl, hy⟩ := HX.out (by omega)
      obtain ⟨x, hxj⟩ : ∃ x, b[j]? = some x := ⟨_, List.getElem?_eq_getElem hjl⟩
      have e1 := HG6.out.cell (hy j x hxj) (fun h => h)
      have hT : (b.take (j + 1)).map (fun x => (x.toNat : Int)) = (b.take j).map (fun x => (x.toNat : Int)) ++ [(x.toNat : Int)] := by
        rw [List.take_add_one, hxj]
        simp
      have hx1 := x.toNat_lt
      generalize x.toNat = xx at *
      have w1 : wrap64 (xx : Int) = (xx : Int) := by unfold wrap64; omega
      have HT := Lib.hid hT
      have r1 : (0 : Int) ≤ (j : Int) := by omega
      have r2 : (j : Int) < (b.length : Int) := by omega
      have hb0 : z + 1 ≤ wr.heap.size := B.lt
      have hvb := (Vals.of_own HO6.out).2
      obtain ⟨a7, c7, w7, hr7, ho7, F7, -⟩ := add_int HO6.out hb0 (by omega) (xx : Int) wr.heap.size ((Fr.refl (S := fun _ => False) wr).alloc (.cells #[.int .i64 (xx : Int)] 3)) (Blk.new wr 3 #[.int .i64 (xx : Int)])
      have G7 := HG6.out.trans' F7 (fun i hi e => absurd hi (by have := hvb i e; have := HZ.out; omega))
      have B7 := B.fr F7 (fun e => by have := hvb z e; omega)
      rw [← HT.out] at ho7
      have HO7 := Lib.hid ho7
      have HG7 := Lib.hid G7
      have HB7 := Lib.hid B7
      have HRUN := Lib.hid hr7
      clear ho7 G7 B7 hr7 F7 hvb hT hxj hy B
      go_wp2_with (at_builtin; refine wpList_append_run (by rfl) (.tmp 60) (.tmp 67) 22 (by rfl) _ w7 (by exact HRUN.out) ?_)
      go_roundg (b.length - (j + 1))
      case measure => rw [HG.out]; omega
      case rel => exact ⟨j + 1, a7, c7, rfl, by omega, rfl, by go_num, HO7.out, HG7.out, HB7.out⟩
    · obtain rfl : j = b.length := by omega
      have r2 : ¬ (b.length : Int) < (b.length : Int) := by omega
      obtain ⟨L, hL⟩ : ∃ L, L = signsS k b := ⟨_, rfl⟩
      have hsig : sigR k b = if L.all (mayS k) = true then some L else none := by rw [hL]; unfold sigR; rw [if_pos HKK.out, if_neg h12, if_neg (fun h => h30 h.1)]
      have hoL := HO6.out
      rw [List.take_length, ← HP.out, ← hL] at hoL
      obtain ⟨N6, hNN⟩ : ∃ N6, N6 = b.length := ⟨_, rfl⟩
      have hoL2 : wr.ownsRow (z + 1) 3 1 (.slice a6 N6 c6) N6 (intCells L) := by rw [hNN]; exact hoL
      have hNL : b.length = L.length := by have := hoL.1; rw [intCells_len] at this; omega
      have HBB := Lib.hid hNL
      clear hL hNN hoL
      rw [hNL] at r2 ⊢
      replace hoL := hoL2
      clear hoL2
      have hN6 : N6 = L.length := by have := hoL.1; rw [intCells_len] at this; omega
      subst hN6
      have hv6 := (Vals.of_own hoL).1
      obtain ⟨a', cap', he, -, -, hz6⟩ := Ints.form hv6
      simp only [Value.slice.injEq, true_and] at he
      obtain ⟨rfl, rfl⟩ := he
      have HSIG := Lib.hid hsig
      have HV6 := Lib.hid hv6
      have HZ6 := Lib.hid hz6
      have HBK := Lib.hid B
      clear hsig hv6 hz6 hoL HX HG HO6 HB
      go_wp2_with fail
      obtain ⟨wo, hwo⟩ : ∃ wo : World, wo = wr := ⟨_, rfl⟩
      obtain rfl := hwo
      go_loopg [7] L.length (fun g q wi => ∃ k1 : Nat, g = L.length - k1 ∧ k1 ≤ L.length ∧ q = .int .i64 k1 ∧ (L.take k1).all (mayS k) = true ∧ Fr (fun _ => False) wo wi)
      case atStart => exact ⟨0, rfl, Nat.zero_le _, rfl, rfl, Fr.refl _⟩
      case round =>
        obtain ⟨k1, hg, hk1, rfl, hall, F8⟩ := hrel
        have HG2 := Lib.hid hg
        have HALL := Lib.hid hall
        have B8 := HBK.out.fr F8 (fun h => h)
        have HF8 := Lib.hid F8
        have t0 := B8.cell 0
        have t1 := B8.cell 1
        simp only [List.getElem?_toArray, List.getElem?_cons_succ, List.getElem?_cons_zero] at t0 t1
        clear hg hall
        by_cases hkl : k1 < L.length
        · obtain ⟨b8, o8, rfl, hy8⟩ := HZ6.out (by omega)
          obtain ⟨n, hn⟩ : ∃ n, L[k1]? = some n := ⟨_, List.getElem?_eq_getElem hkl⟩
          have en := F8.cell (hy8 k1 n hn) (fun h => h)
          have hat : (L.take (k1 + 1)).all (mayS k) = ((L.take k1).all (mayS k) && mayS k n) := by
            rw [List.take_add_one, hn]
            simp
          have hno : mayS k n = false → L.all (mayS k) = false := fun h => by
            rw [List.all_eq_false]
            exact ⟨n, List.mem_of_getElem? hn, by simp [h]⟩
          have HAT := Lib.hid hat
          have HNO := Lib.hid hno
          have r1 : (0 : Int) ≤ (k1 : Int) := by omega
          have r2 : (k1 : Int) < (L.length : Int) := by omega
          clear hy8 hn hat hno F8
          rcases Bool.eq_false_or_eq_true (mayS k n) with hm | hm
          · have hC : ∀ w, Calls Tryz.prog 49 #[.int .i64 k, .int .i64 n] w fun e w' => e = .returned (.bool true) ∧ w' = w := fun w => (r06May_any k n w).mono (by rintro e w' ⟨rfl, rfl⟩; exact ⟨by rw [hm], rfl⟩)
            have HC := Lib.hid hC
            have HM := Lib.hid hm
            clear hm hC
            go_wp2_with fail
            go_quiet ((go_at_call 49; exact Calls.quiet_of_same (HC.out _)))
            go_wp2_with fail
            go_roundg (L.length - (k1 + 1))
            case measure => rw [HG2.out]; omega
            case rel => exact ⟨k1 + 1, rfl, by omega, by go_num, by rw [HAT.out, HALL.out, HM.out]; rfl, HF8.out.drewN _⟩
          · have hC : ∀ w, Calls Tryz.prog 49 #[.int .i64 k, .int .i64 n] w fun e w' => e = .returned (.bool false) ∧ w' = w := fun w => (r06May_any k n w).mono (by rintro e w' ⟨rfl, rfl⟩; exact ⟨by rw [hm], rfl⟩)
            have HC := Lib.hid hC
            have hnone : sigR k b = none := by rw [HSIG.out, if_neg]; intro h; rw [HNO.out hm] at h; exact absurd h (by decide)
            have HNONE := Lib.hid hnone
            clear hm hnone hC
            go_wp2_with fail
            go_quiet ((go_at_call 49; exact Calls.quiet_of_same (HC.out _)))
            go_wp2_with fail
            exact bodyPost_ret (v := .tuple #[.slice none 0 0, .bool false]) (by simp [results, Tryz.results9, go_sem]) rfl (sigOut_no HNONE.out ((HG6.out.trans HF8.out).drewN _))
        · have r2 : ¬ (k1 : Int) < (L.length : Int) := by omega
          have hsome : sigR k b = some L := by
            have := HALL.out
            rw [List.take_of_length_le (by omega)] at this
            rw [HSIG.out, if_pos this]
          have HSOME := Lib.hid hsome
          have hvv : Ints wr (.slice a6 L.length c6) L := HV6.out.old F8
          have HVV := Lib.hid hvv
          clear hsome hvv F8
          go_wp2_with fail
          exact bodyPost_ret (v := .tuple #[.slice a6 L.length c6, .bool true]) (by simp [results, Tryz.results9, go_sem]) rfl ⟨_, by rw [HSOME.out]; rfl, by rw [HSOME.out]; exact HVV.out, HG6.out.trans HF8.out⟩
end Go.Proofs.YtgffhiopbnkjbaaGreatDoor

namespace Go.Proofs.YtgffhiopbnkjbaaGreatDoor
open Go Go.RowKit Go.Q
theorem r06Signs_any (k : Int) (v : Value) (b : List UInt8) (w : World) (h : Bytes w v b) (hlim : b.length ≤ 16777216) :
    Calls Tryz.prog 9 #[.agg #[.int .i64 k, v]] w fun e w' => RSigOut w w' k b e := by
  rcases Bool.eq_false_or_eq_true (Go.Q.kindOk k) with hk | hk
  · by_cases h12 : k = 12
    · subst h12
      exact r06Signs_12 v b w h hlim
    · by_cases h30 : k = 30
      · subst h30
        exact r06Signs_30 v b w h hlim
      · exact r06Signs_one k hk h12 h30 v b w h hlim
  · exact r06Signs_none k hk v b w h hlim
end Go.Proofs.YtgffhiopbnkjbaaGreatDoor

namespace Go.Proofs.YtgffhiopbnkjbaaGreatDoor
open Go Go.RowKit Go.Q
set_option linter.unusedSimpArgs false

set_option maxRecDepth 20000 in
theorem r02Of_any (n : Int) (w : World) :
    Calls Tryz.prog 15 #[.int .i64 n] w fun e w' => e = .returned (tagV (tagOf n)) ∧ Fr (fun _ => False) w w' := by
  rcases Classical.em (n = 16) with h | h
  case' inl => subst h
  case' inr => have h16 : (n == 16) = false := beq_eq_false_iff_ne.2 h
  case' inl =>
    go_enter Tryz.func15, Tryz.ntmps15
    go_wp2_with fail
    exact bodyPost_ret (v := tagV ⟨0, 16, true⟩) (by simp [results, Tryz.results15, go_sem, tagV]) rfl ⟨rfl, (Fr.refl w).alloc _⟩
  case' inr =>
    go_enter Tryz.func15, Tryz.ntmps15
    go_wp2_with fail
    exact bodyPost_ret (v := tagV ⟨0, n, n == 17⟩) (by simp [results, Tryz.results15, go_sem, tagV]) rfl ⟨by simp [tagOf, tagV, h16], (Fr.refl w).alloc _⟩

set_option maxRecDepth 20000 in
theorem r02Length_any (n : Nat) (hn : n ≤ 16777216) (w : World) :
    Calls Tryz.prog 51 #[.int .i64 n] w fun e w' => ∃ v, e = .returned v ∧ w'.ownsRow w.heap.size 5 1 v (lenBytes n).length (Lib.byteCells (lenBytes n)) ∧ Fr (fun _ => False) w w' := by
  have key : ∀ cs : Array Value, cs = (Lib.byteCells (lenBytes n)).toArray → (lenBytes n).length ≤ 5 → (w.alloc (.cells cs 5)).ownsRow w.heap.size 5 1 (.slice (some ⟨w.heap.size, 0, none⟩) (lenBytes n).length (lenBytes n).length) (lenBytes n).length (Lib.byteCells (lenBytes n)) ∧ Fr (fun _ => False) w (w.alloc (.cells cs 5)) := by
    rintro cs rfl h5
    exact ⟨own_bytes (Blk.new w 5 _) (by omega) _ (Nat.le_refl _), (Fr.refl w).alloc _⟩
  by_cases h1 : n < 128
  · have q1 : (n : Int) < 128 := by omega
    have hL : lenBytes n = [UInt8.ofNat n] := by simp [lenBytes, h1]
    rw [hL] at key ⊢
    have HK := Lib.hid key
    clear key hL
    go_enter Tryz.func51, Tryz.ntmps51
    go_wp2_with fail
    go_ret
    refine ⟨_, rfl, HK.out _ ?_ (by simp)⟩
    simp [Lib.byteCells, IntKind.wrap, IntKind.signed, IntKind.bits]
    try omega
  have q1 : ¬ (n : Int) < 128 := by omega
  by_cases h2 : n < 256
  · have q2 : (n : Int) < 256 := by omega
    have hL : lenBytes n = [129, UInt8.ofNat n] := by simp [lenBytes, h1, h2]
    rw [hL] at key ⊢
    have HK := Lib.hid key
    clear key hL
    go_enter Tryz.func51, Tryz.ntmps51
    go_wp2_with fail
    go_ret
    refine ⟨_, rfl, HK.out _ ?_ (by simp)⟩
    simp [Lib.byteCells, IntKind.wrap, IntKind.signed, IntKind.bits]
    try omega
  have q2 : ¬ (n : Int) < 256 := by omega
  by_cases h3 : n < 65536
  · have q3 : (n : Int) < 65536 := by omega
    have hL : lenBytes n = [130, UInt8.ofNat (n / 256), UInt8.ofNat (n % 256)] := by simp only [lenBytes, h1, h2, h3, if_true, if_false]
    rw [hL] at key ⊢
    have HK := Lib.hid key
    clear key hL
    go_enter Tryz.func51, Tryz.ntmps51
    go_wp2_with fail
    go_ret
    refine ⟨_, rfl, HK.out _ ?_ (by simp)⟩
    simp [Lib.byteCells, IntKind.wrap, IntKind.signed, IntKind.bits]
    try omega
  have q3 : ¬ (n : Int) < 65536 := by omega
  by_cases h4 : n < 16777216
  · have q4 : (n : Int) < 16777216 := by omega
    have hL : lenBytes n = [131, UInt8.ofNat (n / 65536), UInt8.ofNat (n / 256 % 256), UInt8.ofNat (n % 256)] := by simp only [lenBytes, h1, h2, h3, h4, if_true, if_false]
    rw [hL] at key ⊢
    have HK := Lib.hid key
    clear key hL
    go_enter Tryz.func51, Tryz.ntmps51
    go_wp2_with fail
    go_ret
    refine ⟨_, rfl, HK.out _ ?_ (by simp)⟩
    simp [Lib.byteCells, IntKind.wrap, IntKind.signed, IntKind.bits]
    try omega
  have q4 : ¬ (n : Int) < 16777216 := by omega
  · have hL : lenBytes n = [132, UInt8.ofNat (n / 16777216), UInt8.ofNat (n / 65536 % 256), UInt8.ofNat (n / 256 % 256), UInt8.ofNat (n % 256)] := by simp only [lenBytes, h1, h2, h3, h4, if_false]
    rw [hL] at key ⊢
    have HK := Lib.hid key
    clear key hL
    go_enter Tryz.func51, Tryz.ntmps51
    go_wp2_with fail
    go_ret
    refine ⟨_, rfl, HK.out _ ?_ (by simp)⟩
    simp [Lib.byteCells, IntKind.wrap, IntKind.signed, IntKind.bits]
    try omega

set_option maxRecDepth 20000 in
theorem r02Bytes_any (t : Tag) (h : tagGood t) (w : World) :
    Calls Tryz.prog 50 #[tagV t] w fun e w' => ∃ v, e = .returned v ∧ w'.ownsRow w.heap.size 5 1 v 1 (Lib.byteCells [tagByte t]) ∧ Fr (fun _ => False) w w' := by
  have hv := tagByte_val h
  have key : ∀ (w' : World) (cs : Array Value), cs = (Lib.byteCells [tagByte t]).toArray → Fr (fun _ => False) w w' → (w'.alloc (.cells cs 5)).ownsRow w.heap.size 5 1 (.slice (some ⟨w'.heap.size, 0, none⟩) 1 1) 1 (Lib.byteCells [tagByte t]) ∧ Fr (fun _ => False) w (w'.alloc (.cells cs 5)) := by
    rintro w' cs rfl F
    exact ⟨own_bytes (l := [tagByte t]) (Blk.new w' 5 _) (by simp) _ F.size, F.alloc _⟩
  obtain ⟨⟨h1, h2⟩, h3, h4⟩ := h
  obtain ⟨c, n, m⟩ := t
  simp only at h1 h2 h3 h4
  have HV := Lib.hid hv
  have HK := Lib.hid key
  have B := Blk.new w 36 #[.int .i64 c, .int .i64 n, .bool m]
  have F0 : Fr (fun _ => False) w (w.alloc (.cells #[.int .i64 c, .int .i64 n, .bool m] 36)) := (Fr.refl w).alloc _
  have q1 : n < 31 := h4
  clear hv key
  rw [show tagV ⟨c, n, m⟩ = .agg #[.int .i64 c, .int .i64 n, .bool m] from rfl]
  cases m
  all_goals
    go_enter Tryz.func50, Tryz.ntmps50
    go_upto_region 1 with fail
    generalize hz : w.heap.size = z at B ⊢
    have HZ := Lib.hid hz
    generalize (w.alloc (.cells _ 36)) = w0 at *
    clear hz
    have S := B.cell
    go_wp2_with fail
    go_ret
    refine ⟨_, rfl, ?_⟩
    rw [← HZ.out]
    refine HK.out _ _ ?_ F0
    have := HV.out
    simp at this
    simp [Lib.byteCells, IntKind.wrap, IntKind.signed, IntKind.bits, this]
    try omega

set_option maxRecDepth 20000 in
theorem r02Wrap_any (t : Tag) (ht : tagGood t) (v : Value) (l : List UInt8) (w : World) (hv : Bytes w v l) (hl : l.length ≤ 16777216) :
    Calls Tryz.prog 14 #[tagV t, v] w fun e w' => ∃ v', e = .returned v' ∧ w'.ownsRow w.heap.size 5 1 v' (wrapS t l).length (Lib.byteCells (wrapS t l)) ∧ Fr (fun _ => False) w w' := by
  obtain ⟨a, cap, rfl, -⟩ := hv.form
  have HB := Lib.hid hv
  have HT := Lib.hid ht
  obtain ⟨N, hN⟩ : ∃ N, N = l.length := ⟨_, rfl⟩
  have HN := Lib.hid hN
  rw [← hN] at hl ⊢
  obtain ⟨c, n, m⟩ := t
  have B := Blk.new w 36 #[.int .i64 c, .int .i64 n, .bool m]
  have F0 : Fr (fun _ => False) w (w.alloc (.cells #[.int .i64 c, .int .i64 n, .bool m] 36)) := (Fr.refl w).alloc _
  obtain ⟨z, hz⟩ : ∃ z, z = w.heap.size := ⟨_, rfl⟩
  rw [← hz] at B
  have HZ := Lib.hid hz
  clear hz hv ht hN
  rw [show tagV ⟨c, n, m⟩ = .agg #[.int .i64 c, .int .i64 n, .bool m] from rfl]
  go_enter Tryz.func14, Tryz.ntmps14
  go_upto_region 1 with fail
  rw [← HZ.out]
  generalize (w.alloc (.cells #[.int .i64 c, .int .i64 n, .bool m] 36)) = w0 at *
  have S := B.cell
  go_wp2_with fail
  refine (r02Bytes_any ⟨c, n, m⟩ HT.out w0).mono ?_
  rintro e w1 ⟨vb, rfl, hob, F1⟩
  have G1 := F0.trans F1
  have hob' := own_le hob F0.size
  obtain ⟨ab, cb, rfl, -⟩ := (Vals.of_own hob').1.form
  have HOB := Lib.hid hob'
  clear hob hob' F0 F1 B S
  go_wp2_with fail
  refine (r02Length_any N hl w1).mono ?_
  rintro e w2 ⟨vd, rfl, hod, F2⟩
  have G2 := G1.trans F2
  have hb0 : w.heap.size ≤ w2.heap.size := G2.size
  have ho1 := ownsRow_fr HOB.out F2 (fun _ _ h => h)
  have hvd := (Vals.of_own hod).1
  obtain ⟨ad, cd, rfl, -⟩ := hvd.form
  obtain ⟨v3, w3, hr3, ho3, F3, _⟩ := append_bytes ho1 ad _ cd (lenBytes N) hvd (by have := len_small N hl; simp; omega) hb0
  have hvb := (Vals.of_own ho1).2
  have G3 := G2.trans' F3 (fun i hi e => absurd hi (by have := hvb i e; omega))
  have hll : (Lib.byteCells (lenBytes N)).length = (lenBytes N).length := byteCells_len _
  obtain ⟨a3, c3, rfl, -⟩ := (Vals.of_own ho3).1
  have hb3 : w.heap.size ≤ w3.heap.size := G3.size
  obtain ⟨v4, w4, hr4, ho4, F4, _⟩ := append_bytes ho3 a _ cap l (HB.out.old G3) (by have := len_small N hl; have := HN.out; simp; omega) hb3
  have hvb4 := (Vals.of_own ho3).2
  have G4 := G3.trans' F4 (fun i hi e => absurd hi (by have := hvb4 i e; omega))
  rw [← HN.out] at hr4 ho4
  have HO4 := Lib.hid ho4
  have HG4 := Lib.hid G4
  clear hod G2 ho1 hvd ho3 F3 hvb G3 F2 F4 hvb4 G4 ho4
  generalize (Lib.byteCells ([tagByte ⟨c, n, m⟩] ++ lenBytes N)).length = L3 at *
  go_wp2_with (at_builtin; first
    | refine wpList_append_run (by rfl) (.tmp 7) (.tmp 10) 23 (by rfl) _ w3 (by exact hr3) ?_
    | refine wpList_append_run (by rfl) (.tmp 12) (.tmp 13) 23 (by rfl) _ w4 (by exact hr4) ?_)
  go_ret
  refine ⟨_, rfl, ?_, HG4.out⟩
  have := HO4.out
  have e : wrapS ⟨c, n, m⟩ l = [tagByte ⟨c, n, m⟩] ++ lenBytes N ++ l := by rw [wrapS, ← HN.out]; simp
  rw [wrap_len, ← HN.out, e]
  exact this
end Go.Proofs.YtgffhiopbnkjbaaGreatDoor

namespace Go.Q
open Go Go.RowKit
theorem cut1_spec (c : UInt8) : ∀ l : List UInt8, (cut1 c l).1 = l.take (cut1 c l).1.length ∧ (∀ i x, i < (cut1 c l).1.length → l[i]? = some x → x ≠ c) ∧ (cut1 c l).1.length ≤ l.length ∧ ((cut1 c l).2.2 = true → l[(cut1 c l).1.length]? = some c ∧ (cut1 c l).2.1 = l.drop ((cut1 c l).1.length + 1)) ∧ ((cut1 c l).2.2 = false → (cut1 c l).1.length = l.length)
  | [] => by simp [cut1]
  | x :: t => by
    obtain ⟨h1, h2, h3, h4, h5⟩ := cut1_spec c t
    unfold cut1
    by_cases hx : x = c
    · simp [hx]
    · simp only [if_neg hx, List.length_cons, List.take_succ_cons, List.getElem?_cons_succ, List.drop_succ_cons]
      refine ⟨by rw [← h1], fun i y hi hy => ?_, by omega, h4, fun h => by rw [h5 h]⟩
      cases i with
      | zero =>
        simp only [List.getElem?_cons_zero, Option.some.injEq] at hy
        subst hy
        exact hx
      | succ i => exact h2 i y (by omega) hy
/-- The least kind, on the way. -/
def kindAt (i : Nat) (l : List UInt8) : Int := if i = 0 then 20 else if i = 1 then (if rightS 12 l = true then 12 else 20) else leastK l
theorem kindAt_one (l : List UInt8) : kindAt 1 l = if rightS 12 l = true then 12 else kindAt 0 l := rfl
theorem kindAt_two (l : List UInt8) : kindAt 2 l = if rightS 19 l = true then 19 else kindAt 1 l := rfl
/-- A step of one part in memory, of any type. -/
theorem Attrs.of_one {w : World} {g : Nat} {t : TypeId} {x y : Value} {p : Part} (B : Blk w g t #[x, y]) (hx : Vals w x (intCells p.o)) (hy : Bytes w y p.b) : Attrs w (.slice (some ⟨g, 0, none⟩) 1 1) [p] :=
  ⟨_, 1, rfl, Nat.le_refl _, by unfold maxLen; omega, fun _ => ⟨g, 0, rfl, fun i q hq => by
    match i, hq with
    | 0, hq =>
      simp only [List.getElem?_cons_zero, Option.some.injEq] at hq
      subst hq
      exact ⟨x, y, B.cell 0, B.cell 1, hx, hy⟩
    | i + 1, hq => simp at hq⟩⟩
end Go.Q
namespace Go.Proofs.YtgffhiopbnkjbaaGreatDoor
open Go Go.RowKit Go.Q
set_option linter.unusedSimpArgs false

/-- What the reference's Of gives. -/
def RefOfOut (w w' : World) (ks : List (List UInt8)) (e : Ending) : Prop :=
  match nameOfS ks with
  | .error x => e = .returned (.tuple #[.slice none 0 0, .int .i64 x])
  | .ok n => ∃ a c, e = .returned (.tuple #[.slice a n.length c, .int .i64 0]) ∧ NRow 60 w' w.heap.size (.slice a n.length c) n

set_option maxRecDepth 20000 in
set_option maxHeartbeats 8000000 in
theorem r14Of_any (v : Value) (ks : List (List UInt8)) (w : World) (h : Strs w v ks) (hk : ∀ k ∈ ks, k.length ≤ 1000000) (hl : ks.length ≤ 1000000) :
    Calls Tryz.prog 26 #[v] w fun e w' => RefOfOut w w' ks e ∧ Fr (fun _ => False) w w' := by
  have H := Lib.hid h
  have HK := Lib.hid hk
  obtain ⟨a, cap, rfl, hc, hm, -⟩ := Strs.form h
  have HNO := Lib.hid (show nameOfS ks = match stepsOfS ks with | none => .error 6 | some n => if 64 < n.length then .error 2 else .ok n from rfl)
  clear h hk hm
  go_enter Tryz.func26, Tryz.ntmps26
  go_wp2_with fail
  go_loopg [4, 5] ks.length (fun g u ii wr => ∃ (j : Nat) (os : List (List Part)) (au : Option Addr) (cu : Nat), g = ks.length - j ∧ j ≤ ks.length ∧ u = .slice au j cu ∧ ii = .int .i64 j ∧ os.length = j ∧ NRow 60 wr w.heap.size (.slice au j cu) os ∧ Fr (fun _ => False) w wr ∧ stepsOfS ks = (stepsOfS (ks.drop j)).map (os ++ ·))
  case atStart => exact ⟨0, [], none, 0, rfl, Nat.zero_le _, rfl, rfl, rfl, NRow.nil _ _ _, Fr.refl _, by simp⟩
  case round =>
    obtain ⟨j, os, au, cu, hg, hj, rfl, rfl, hos, hrow, F, hR⟩ := hrel
    have HG := Lib.hid hg
    have HOS := Lib.hid hos
    have HRW := Lib.hid hrow
    have HR := Lib.hid hR
    have HF := Lib.hid F
    clear hg hos hrow hR
    by_cases hjl : j < ks.length
    · obtain ⟨a0, c0, he, _, _, hx⟩ := Strs.form H.out
      simp only [Value.slice.injEq, true_and] at he
      obtain ⟨rfl, rfl⟩ := he
      obtain ⟨b, off, rfl, hy⟩ := hx (by omega)
      obtain ⟨s, hs⟩ : ∃ s, ks[j]? = some s := ⟨_, List.getElem?_eq_getElem hjl⟩
      have e0 := hy j s hs
      have HE0 := Lib.hid e0
      have hsl := HK.out s (List.mem_of_getElem? hs)
      have HSI := Lib.hid hs
      obtain ⟨k1, k2, k3, k4, k5⟩ := cut1_spec 61 s
      have HST := Lib.hid (show stepS s = if (cut1 61 s).2.2 = false then none else match fromTextS (cut1 61 s).1 with | .error _ => none | .ok o => some ⟨o, leastWhole (cut1 61 s).2.1⟩ from rfl)
      have e1 := F.cell e0 (fun h => h)
      have r1 : (0 : Int) ≤ (j : Int) := by omega
      have r2 : (j : Int) < (ks.length : Int) := by omega
      have hss := str_size s
      clear hx hy hs F e0
      generalize cut1 61 s = cc at *
      obtain ⟨kd, vl, fd⟩ := cc
      simp only at k1 k2 k3 k4 k5 HST
      obtain ⟨K, hK⟩ : ∃ K, K = kd.length := ⟨_, rfl⟩
      rw [← hK] at k1 k2 k3 k4 k5
      have HKD := Lib.hid k1
      have HK2 := Lib.hid k2
      have HK4 := Lib.hid k4
      have HK5 := Lib.hid k5
      have hkdl : kd.length ≤ 1000000 := by omega
      clear k1 k2 k4 k5 hK
      obtain ⟨wo, hwo⟩ : ∃ wo : World, wo = wr := ⟨_, rfl⟩
      obtain rfl := hwo
      go_wp2_with fail
      go_loopg [6] s.length (fun g cc wr => ∃ c : Nat, g = s.length - c ∧ c ≤ K ∧ cc = .int .i64 c ∧ wr = wo)
      case atStart => exact ⟨0, rfl, Nat.zero_le _, rfl, rfl⟩
      case round =>
        obtain ⟨c, hg, hcK, rfl, rfl⟩ := hrel
        have HG2 := Lib.hid hg
        clear hg
        by_cases hcl : c < K
        · obtain ⟨x, hx⟩ : ∃ x, s[c]? = some x := ⟨_, List.getElem?_eq_getElem (by omega)⟩
          have hix := str_index hx
          have hx61 := HK2.out c x hcl hx
          have hxn : x.toNat ≠ 61 := fun e => hx61 (UInt8.toNat_inj.1 e)
          have q1 : (c : Int) < (s.length : Int) := by omega
          have q3 : ((x.toNat : Int) != 61) = true := by simp; omega
          have q4 : ((x.toNat : Int) == 61) = false := beq_eq_false_iff_ne.2 (by omega)
          have q5 : (x.toNat == 61) = false := beq_eq_false_iff_ne.2 hxn
          have q6 : (x.toNat != 61) = true := by simpa using hxn
          clear hx hx61 hxn
          generalize x.toNat = y at *
          go_wp2_with fail
          go_roundg (s.length - (c + 1))
          case measure => rw [HG2.out]; omega
          case rel => exact ⟨c + 1, rfl, by omega, by go_num, rfl⟩
        · obtain rfl : c = K := by omega
          have HT0 := r04FromText_any kd wr (by omega)
          unfold fromTextOut at HT0
          have HT := Lib.hid HT0
          have hto := str_to s c k3
          rw [← HKD.out] at hto
          clear HT0
          cases fd with
          | false =>
            have hKl := HK5.out rfl
            have q1 : ¬ (c : Int) < (s.length : Int) := by omega
            have q2 : ((c : Int) == (s.length : Int)) = true := by simp; omega
            have q3 : (c == s.length) = true := by simp; omega
            have hres : nameOfS ks = .error 6 := by
              rw [HNO.out, stepsOf_none HR.out HSI.out (by rw [HST.out]; rfl)]
            have HRES := Lib.hid hres
            clear hres hKl
            go_wp2_with fail
            refine HT.out.mono ?_
            rintro e w2 ⟨hout, F2⟩
            have HF2 := Lib.hid (HF.out.trans F2)
            have e2 := F2.cell e1 (fun h => h)
            clear F2 HT
            cases hft : fromTextS kd with
            | error x =>
              rw [hft] at hout
              obtain ⟨rfl, hx⟩ := hout
              clear hft hx
              go_wp2_with fail
              refine bodyPost_ret (v := .tuple #[.slice none 0 0, .int .i64 6]) (by simp [results, Tryz.results26, go_sem]) rfl ⟨?_, HF2.out⟩
              unfold RefOfOut
              rw [HRES.out]
            | ok o =>
              rw [hft] at hout
              obtain ⟨u, rfl, hown⟩ := hout
              clear hft hown
              go_wp2_with fail
              refine bodyPost_ret (v := .tuple #[.slice none 0 0, .int .i64 6]) (by simp [results, Tryz.results26, go_sem]) rfl ⟨?_, HF2.out⟩
              unfold RefOfOut
              rw [HRES.out]
          | true =>
            obtain ⟨h61, hvl⟩ := HK4.out rfl
            have hcs : c < s.length := (List.getElem?_eq_some_iff.1 h61).1
            have hix := str_index h61
            have q1 : (c : Int) < (s.length : Int) := by omega
            have q2 : ((c : Int) == (s.length : Int)) = false := by simp; omega
            have q3 : (c == s.length) = false := by simp; omega
            have HVL := Lib.hid hvl
            clear h61 hvl
            go_wp2_with fail
            refine HT.out.mono ?_
            rintro e w2 ⟨hout, F2⟩
            have HF2 := Lib.hid (HF.out.trans F2)
            have HRW2 := Lib.hid (HRW.out.old F2)
            have e2 := F2.cell e1 (fun h => h)
            have hs2 := F2.size
            clear F2 HT hix
            cases hft : fromTextS kd with
            | error x =>
              have hres : nameOfS ks = .error 6 := by
                rw [HNO.out, stepsOf_none HR.out HSI.out (by rw [HST.out, hft]; rfl)]
              have HRES := Lib.hid hres
              rw [hft] at hout
              obtain ⟨rfl, hx⟩ := hout
              have hx1 : (x == 0) = false := beq_eq_false_iff_ne.2 hx
              have hx2 : (x != 0) = true := by simpa using hx
              clear hft hx hres
              go_wp2_with fail
              refine bodyPost_ret (v := .tuple #[.slice none 0 0, .int .i64 6]) (by simp [results, Tryz.results26, go_sem]) rfl ⟨?_, HF2.out⟩
              unfold RefOfOut
              rw [HRES.out]
            | ok o =>
              have hsome : stepS s = some ⟨o, leastWhole vl⟩ := by rw [HST.out, hft]; rfl
              have HSM := Lib.hid hsome
              rw [hft] at hout
              obtain ⟨u, rfl, hown⟩ := hout
              obtain ⟨ao, mo, co, rfl, rfl⟩ := own_shape hown
              have HOW := Lib.hid hown
              have hfrom : ∀ w, (Instr.slice 9 (str s) (some (.int .i64 ((c : Int) + 1))) none none).run Tryz.prog w = .ok (str vl) w := fun w => by
                have := str_from s (c + 1) (by omega) w
                rw [← HVL.out] at this
                exact this
              have hvll : vl.length ≤ 1000000 := by rw [HVL.out, List.length_drop]; omega
              obtain ⟨cp, w3, hcv, hbv, F3, -⟩ := bytes_of_str w2 vl (by omega)
              have HBV := Lib.hid hbv
              have HF3 := Lib.hid (HF2.out.trans F3)
              have HRW3 := Lib.hid (HRW2.out.old F3)
              have HOW3 := Lib.hid (ownsRow_fr HOW.out F3 (fun _ _ h => h))
              have hs3 := F3.size
              obtain ⟨gv, hgv⟩ : ∃ gv, gv = w2.heap.size := ⟨_, rfl⟩
              rw [← hgv] at HBV hcv
              have HGV := Lib.hid hgv
              clear hgv
              clear hft hsome hown hbv F3 HRW2 HOW HF2
              go_upto_region 13 with fail
              obtain ⟨z, hz⟩ : ∃ z, z = w3.heap.size := ⟨_, rfl⟩
              have B12 := Blk.new w3 3 #[.int .i64 12, .int .i64 19]
              have F4 : Fr (fun _ => False) w3 (w3.alloc (.cells #[.int .i64 12, .int .i64 19] 3)) := (Fr.refl w3).alloc _
              have HF4 := Lib.hid (HF3.out.trans F4)
              have HRW4 := Lib.hid (HRW3.out.old F4)
              have HOW4 := Lib.hid (ownsRow_fr HOW3.out F4 (fun _ _ h => h))
              have HBV4 := Lib.hid (HBV.out.old F4)
              have hs4 := F4.size
              rw [← hz] at B12
              have HZ := Lib.hid hz
              clear F4 HF3 HRW3 HOW3 HBV hz hcv hfrom e2
              go_wp2_with fail
              rw [← HZ.out]
              generalize (w3.alloc (.cells #[.int .i64 12, .int .i64 19] 3)) = w4 at *
              go_loopg [10, 70] 2 (fun g kk ii wr => ∃ i : Nat, g = 2 - i ∧ i ≤ 2 ∧ kk = .int .i64 (kindAt i vl) ∧ ii = .int .i64 i ∧ Fr (fun _ => False) w4 wr)
              case atStart => exact ⟨0, rfl, Nat.zero_le _, rfl, rfl, Fr.refl _⟩
              case round =>
                obtain ⟨i, hg, hi, rfl, rfl, F5⟩ := hrel
                have HG3 := Lib.hid hg
                have HF5 := Lib.hid F5
                clear hg
                by_cases hi2 : i < 2
                · obtain ⟨kq, hkq, hkn⟩ : ∃ kq : Int, (#[Value.int .i64 12, Value.int .i64 19] : Array Value)[i]? = some (.int .i64 kq) ∧ kindAt (i + 1) vl = if rightS kq vl = true then kq else kindAt i vl := by
                    rcases Nat.lt_or_ge i 1 with h | h
                    · obtain rfl : i = 0 := by omega
                      exact ⟨12, rfl, kindAt_one vl⟩
                    · obtain rfl : i = 1 := by omega
                      exact ⟨19, rfl, kindAt_two vl⟩
                  have ez := (B12.fr F5 (fun h => h)).cell i
                  rw [hkq] at ez
                  have HKN := Lib.hid hkn
                  have hSg := r06Signs_any kq _ vl wr (HBV4.out.old F5) (by omega)
                  unfold RSigOut at hSg
                  rw [sigR_iff] at hSg
                  have HSG := Lib.hid hSg
                  have q1 : (i : Int) < 2 := by omega
                  have s1 : (0 : Int) ≤ (i : Int) := by omega
                  clear hkq hkn hSg F5
                  obtain ⟨ki, hki⟩ : ∃ ki, ki = kindAt i vl := ⟨_, rfl⟩
                  rw [← hki] at HKN ⊢
                  clear hki
                  go_wp2_with fail
                  refine HSG.out.mono ?_
                  rintro e w5 ⟨v5, rfl, -, F6⟩
                  have HF6 := Lib.hid (HF5.out.trans F6)
                  clear HSG F6 ez
                  cases hr : rightS kq vl with
                  | true =>
                    rw [hr, if_pos rfl] at HKN
                    rw [if_pos rfl, Option.isSome_some]
                    clear hr
                    go_wp2_with fail
                    go_roundg (2 - (i + 1))
                    case measure => rw [HG3.out]; omega
                    case rel => exact ⟨i + 1, rfl, by omega, by rw [HKN.out], by go_num, HF6.out⟩
                  | false =>
                    rw [hr, if_neg (by simp)] at HKN
                    rw [if_neg (by simp), Option.isSome_none]
                    clear hr
                    go_wp2_with fail
                    go_roundg (2 - (i + 1))
                    case measure => rw [HG3.out]; omega
                    case rel => exact ⟨i + 1, rfl, by omega, by rw [HKN.out], by go_num, HF6.out⟩
                · obtain rfl : i = 2 := by omega
                  obtain ⟨kf, hkf⟩ : ∃ kf, kf = kindAt 2 vl := ⟨_, rfl⟩
                  have hkf2 : kf = leastK vl := hkf
                  rw [← hkf]
                  obtain ⟨T, hT⟩ : ∃ T, T = tagOf kf := ⟨_, rfl⟩
                  have HTG := Lib.hid (show tagGood T from by rw [hT, hkf2]; exact kind_good (right_kind (least_right vl)))
                  have hof : ∀ w, Calls Tryz.prog 15 #[.int .i64 kf] w fun e w' => e = .returned (tagV T) ∧ Fr (fun _ => False) w w' := fun w => by rw [hT]; exact r02Of_any kf w
                  have HOF := Lib.hid hof
                  have hlw : wrapS T vl = leastWhole vl := by rw [hT, hkf2]; rfl
                  have HLW := Lib.hid hlw
                  clear hkf hkf2 hT hof hlw
                  obtain ⟨wp, hwp⟩ : ∃ wp : World, wp = wr := ⟨_, rfl⟩
                  obtain rfl := hwp
                  go_wp2_with fail
                  refine (HOF.out _).mono ?_
                  rintro e w5 ⟨rfl, F6⟩
                  have HWR := Lib.hid (r02Wrap_any T HTG.out _ vl w5 (HBV4.out.old (HF5.out.trans F6)) (by omega))
                  have HF6 := Lib.hid (HF5.out.trans F6)
                  clear F6 F5 HF5
                  go_wp2_with fail
                  refine HWR.out.mono ?_
                  rintro e w6 ⟨v6, rfl, hown6, F7⟩
                  obtain ⟨a6, m6, c6, rfl, rfl⟩ := own_shape hown6
                  rw [HLW.out] at hown6 ⊢
                  have HF7 := Lib.hid (HF6.out.trans F7)
                  have hs5 := HF6.out.size
                  have hs6 := F7.size
                  have hkp := HRW4.out.keep
                  have FA : Fr (fun _ => False) w6 (w6.alloc (.cells #[.slice ao o.length co, .slice a6 (leastWhole vl).length c6] 63)) := (Fr.refl w6).alloc _
                  have BA := Blk.new w6 63 #[.slice ao o.length co, .slice a6 (leastWhole vl).length c6]
                  have k1 := own_kept (ownsRow_fr (ownsRow_fr HOW4.out HF7.out (fun _ _ h => h)) FA (fun _ _ h => h)) (fun k => (Value.slice au j cu).ownBlock = some k) (fun k hk => by
                    obtain ⟨us, g1, -⟩ := HRW.out
                    exact ((Vals.of_own g1).2 k hk).2)
                  have k2 := own_kept (ownsRow_fr hown6 FA (fun _ _ h => h)) (fun k => (Value.slice au j cu).ownBlock = some k) (fun k hk => by
                    obtain ⟨us, g1, -⟩ := HRW.out
                    have := ((Vals.of_own g1).2 k hk).2
                    omega)
                  have k3 : Kept (fun W => Attrs W (.slice (some ⟨w6.heap.size, 0, none⟩) 1 1) [⟨o, leastWhole vl⟩]) (fun k => (Value.slice au j cu).ownBlock = some k) (w6.alloc (.cells #[.slice ao o.length co, .slice a6 (leastWhole vl).length c6] 63)) := fun W f =>
                    Attrs.of_one (p := ⟨o, leastWhole vl⟩) (BA.fr f (fun e => by
                      obtain ⟨us, g1, -⟩ := HRW.out
                      have := ((Vals.of_own g1).2 _ e).2
                      omega)) (k1 W f) (k2 W f)
                  have hrwA := (HRW4.out.old HF7.out).old FA
                  have hcA := ((HF4.out.trans HF7.out).trans FA)
                  obtain ⟨a7, c7, w7, hrun, hrow7, F8⟩ := NRow.add Tryz.underlying46 info60 hrwA hcA.size ((Fr.refl _).alloc (.cells #[.slice (some ⟨w6.heap.size, 0, none⟩) 1 1] 60)) _ _ [⟨o, leastWhole vl⟩] (Blk.new _ 60 #[.slice (some ⟨w6.heap.size, 0, none⟩) 1 1]) rfl k3 (by rw [HOS.out]; omega)
                  have HG7 := Lib.hid (hcA.trans' F8 (fun i hi e => absurd hi (by have := (hkp i e).1; omega)))
                  rw [HOS.out] at hrun
                  rw [World.size_alloc] at hrun
                  have HRUN := Lib.hid hrun
                  have HROW7 := Lib.hid hrow7
                  have HNX := Lib.hid (stepsOf_next HR.out HSI.out HSM.out)
                  clear hrun hrow7 F8 k1 k2 k3 hrwA hcA FA BA hown6 F7
                  go_wp2_with (at_builtin; refine wpList_append_run (by rfl) (.tmp 84) (.tmp 92) 46 (by rfl) _ w7 (by exact HRUN.out) ?_)
                  go_roundg (ks.length - (j + 1))
                  case measure => rw [HG.out]; omega
                  case rel => exact ⟨j + 1, os ++ [[⟨o, leastWhole vl⟩]], a7, c7, rfl, by omega, rfl, by go_num, by rw [List.length_append, HOS.out]; rfl, by rw [← HOS.out]; exact HROW7.out, HG7.out, HNX.out⟩
    · obtain rfl : j = ks.length := by omega
      have hd : ks.drop ks.length = [] := List.drop_length
      have hsS : stepsOfS ks = some os := by rw [HR.out, hd]; simp [stepsOfS]
      have hol := HOS.out
      by_cases h64 : 64 < ks.length
      · have q1 : (64 : Int) < (ks.length : Int) := by omega
        have hres : nameOfS ks = .error 2 := by rw [HNO.out, hsS]; exact if_pos (by omega)
        have HRES := Lib.hid hres
        clear hd hsS hres hol
        go_wp2_with fail
        refine bodyPost_ret (v := .tuple #[.slice none 0 0, .int .i64 2]) (by simp [results, Tryz.results26, go_sem]) rfl ⟨?_, HF.out⟩
        unfold RefOfOut
        rw [HRES.out]
      · have q1 : ¬ (64 : Int) < (ks.length : Int) := by omega
        have hres : nameOfS ks = .ok os := by rw [HNO.out, hsS]; exact if_neg (by omega)
        have HRES := Lib.hid hres
        have HOL := Lib.hid hol
        clear hd hsS hres hol
        go_wp2_with fail
        refine bodyPost_ret (v := .tuple #[.slice au ks.length cu, .int .i64 0]) (by simp [results, Tryz.results26, go_sem]) rfl ⟨?_, HF.out⟩
        unfold RefOfOut
        rw [HRES.out]
        exact ⟨au, cu, by rw [HOL.out], by rw [HOL.out]; exact HRW.out⟩
end Go.Proofs.YtgffhiopbnkjbaaGreatDoor

namespace Go.Proofs.YtgffhiopbnkjbaaGreatDoor
open Go Go.RowKit Go.Q
set_option linter.unusedSimpArgs false

/-- What ReadTag gives. -/
def rTagV (p : Nat) : Except Int (Tag × Nat) → Value
  | .error e => .tuple #[tagV ⟨0, 0, false⟩, .int .i64 p, .int .i64 e]
  | .ok (t, k) => .tuple #[tagV t, .int .i64 ((p + k : Nat) : Int), .int .i64 0]
theorem numS_next {i n : Nat} {l : List UInt8} {x : UInt8} {t : List UInt8} (h : l = x :: t) : numS i n l = if (i = 0 ∧ x.toNat = 128) ∨ i = 3 then .error 4 else if x.toNat < 128 then (if n * 128 + x.toNat % 128 < 31 then .error 4 else .ok (n * 128 + x.toNat % 128, i + 1)) else numS (i + 1) (n * 128 + x.toNat % 128) t := by
  rw [h]
  simp only [numS]
theorem drop_get {α : Type} {l : List α} {j : Nat} {x : α} (hx : l[j]? = some x) : l.drop j = x :: l.drop (j + 1) := by
  obtain ⟨h, rfl⟩ := List.getElem?_eq_some_iff.1 hx
  exact List.drop_eq_getElem_cons h

set_option maxRecDepth 20000 in
set_option maxHeartbeats 2000000 in
theorem r02ReadTag_any (v : Value) (l : List UInt8) (p : Nat) (w : World) (h : Bytes w v l) (hp : p ≤ l.length) (hlm : l.length ≤ 1099511627776) :
    Calls Tryz.prog 102 #[v, .int .i64 p] w fun e w' => e = .returned (rTagV p (readTagS (l.drop p))) ∧ Fr (fun _ => False) w w' := by
  obtain ⟨a, cap, rfl, -, -, hx⟩ := h.form
  obtain ⟨z, hz⟩ : ∃ z, z = w.heap.size := ⟨_, rfl⟩
  have BZ := Blk.new w 36 #[.int .i64 0, .int .i64 0, .bool false]
  have F0 : Fr (fun _ => False) w (w.alloc (.cells #[.int .i64 0, .int .i64 0, .bool false] 36)) := (Fr.refl w).alloc _
  rw [← hz] at BZ
  have hzw : ∀ k, k < w.heap.size → k = z → False := fun k hk e => by omega
  have HZ := Lib.hid hz
  have HX := Lib.hid hx
  have HF0 := Lib.hid F0
  have HZW := Lib.hid hzw
  clear h hx hz F0 hzw
  rcases Nat.lt_or_ge p l.length with hpl | hpl
  case inr =>
    obtain rfl : p = l.length := by omega
    have hn : readTagS (l.drop l.length) = .error 3 := by rw [List.drop_length]; rfl
    have HN := Lib.hid hn
    clear hn
    go_enter Tryz.func102, Tryz.ntmps102
    go_upto_region 1 with fail
    rw [← HZ.out]
    generalize (w.alloc (.cells #[.int .i64 0, .int .i64 0, .bool false] 36)) = w0 at *
    have SZ := BZ.cell
    have ZZ := BZ.frozen
    go_wp2_with fail
    obtain ⟨B5, F5⟩ := set3 BZ (.int .i64 0) (.int .i64 0) (.bool false)
    generalize (((w0.setCell ⟨z, 0, none⟩ (.int .i64 0)).setCell ⟨z, 1, none⟩ (.int .i64 0)).setCell ⟨z, 2, none⟩ (.bool false)) = w5 at *
    have n0 := B5.cell 0
    have n1 := B5.cell 1
    have n2 := B5.cell 2
    simp at n0 n1 n2
    refine bodyPost_ret (v := .tuple #[.agg #[.int .i64 0, .int .i64 0, .bool false], .int .i64 l.length, .int .i64 3]) (by simp [results, Tryz.results102, go_sem, n0, n1, n2]) rfl ?_
    exact ⟨by rw [HN.out]; rfl, HF0.out.trans' F5 HZW.out⟩

  case inl =>
    obtain ⟨b, o, rfl, hy⟩ := HX.out (by omega)
    obtain ⟨x, hxp⟩ : ∃ x, l[p]? = some x := ⟨_, List.getElem?_eq_getElem hpl⟩
    have ex := HF0.out.cell (hy p x hxp) (fun h => h)
    have hdp := drop_get hxp
    have hx256 := x.toNat_lt
    obtain ⟨y, hyy⟩ : ∃ y, y = x.toNat := ⟨_, rfl⟩
    rw [← hyy] at ex hx256
    have hT : readTagS (l.drop p) = if y % 32 < 31 then .ok (⟨y / 64, y % 32, decide (y / 32 % 2 = 1)⟩, 1) else
      match numS 0 0 (l.drop (p + 1)) with
      | .error e => .error e
      | .ok (n, k) => .ok (⟨y / 64, n, decide (y / 32 % 2 = 1)⟩, k + 1) := by rw [hdp, hyy]; rfl
    have HT := Lib.hid hT
    have HY := Lib.hid hy
    have HYY := Lib.hid hyy
    have r0 : (0 : Int) ≤ (p : Int) := by omega
    have r1 : (p : Int) < (l.length : Int) := by omega
    clear hy hyy hdp hT hxp
    go_enter Tryz.func102, Tryz.ntmps102
    go_upto_region 1 with fail
    rw [← HZ.out]
    generalize (w.alloc (.cells #[.int .i64 0, .int .i64 0, .bool false] 36)) = w0 at *
    go_upto_region 5 with fail
    obtain ⟨c1, hc1⟩ : ∃ c : Int, (y : Int) / 64 = c := ⟨_, rfl⟩
    obtain ⟨c2, hc2⟩ : ∃ c : Int, (y : Int) % 32 = c := ⟨_, rfl⟩
    obtain ⟨c3, hc3⟩ : ∃ c : Bool, ((y : Int) / 32 % 2 == 1) = c := ⟨_, rfl⟩
    have h3 : decide (y / 32 % 2 = 1) = c3 := by
      rw [← hc3, Bool.eq_iff_iff]
      simp
      omega
    rw [h3] at HT
    rw [hc1, hc2, hc3]
    rw [hc1] at HT
    rw [hc2] at HT
    obtain ⟨d, hd⟩ : ∃ d, d = w0.heap.size := ⟨_, rfl⟩
    have BD := Blk.new w0 36 #[.int .i64 c1, .int .i64 c2, .bool c3]
    have F1 : Fr (fun _ => False) w0 (w0.alloc (.cells #[.int .i64 c1, .int .i64 c2, .bool c3] 36)) := (Fr.refl w0).alloc _
    have hzl := BZ.lt
    replace BZ := BZ.fr F1 (fun h => h)
    have HF1 := Lib.hid (HF0.out.trans F1)
    rw [← hd] at BD ⊢
    have hdz : d ≠ z := by omega
    have hdw : ∀ k, k < w.heap.size → k = d → False := fun k hk e => by have := HF0.out.size; omega
    have HDW := Lib.hid hdw
    clear hd F1 hzl hdw h3 hc3 ex HF0
    generalize (w0.alloc (.cells #[.int .i64 c1, .int .i64 c2, .bool c3] 36)) = w1 at *
    have SD := BD.cell
    have SZ := BZ.cell
    have ZD := BD.frozen
    have ZZ := BZ.frozen
    by_cases h31 : y % 32 < 31
    · have q1 : c2 < 31 := by omega
      have hres : readTagS (l.drop p) = .ok (⟨c1, c2, c3⟩, 1) := by rw [HT.out, if_pos h31]
      have HR := Lib.hid hres
      clear hres
      go_wp2_with fail
      obtain ⟨B5, F5⟩ := set3 BZ (.int .i64 c1) (.int .i64 c2) (.bool c3)
      generalize (((w1.setCell ⟨z, 0, none⟩ (.int .i64 c1)).setCell ⟨z, 1, none⟩ (.int .i64 c2)).setCell ⟨z, 2, none⟩ (.bool c3)) = w5 at *
      have n0 := B5.cell 0
      have n1 := B5.cell 1
      have n2 := B5.cell 2
      simp at n0 n1 n2
      refine bodyPost_ret (v := .tuple #[.agg #[.int .i64 c1, .int .i64 c2, .bool c3], .int .i64 ((p : Int) + 1), .int .i64 0]) (by simp [results, Tryz.results102, go_sem, n0, n1, n2]) rfl ?_
      exact ⟨by rw [HR.out]; rfl, HF1.out.trans' F5 HZW.out⟩
    · have q1 : ¬ c2 < 31 := by omega
      have hres : readTagS (l.drop p) = match numS 0 0 (l.drop (p + 1)) with
          | .error e => .error e
          | .ok (n, k) => .ok (⟨c1, n, c3⟩, k + 1) := by rw [HT.out, if_neg h31]
      have HR := Lib.hid hres
      have HBZ := Lib.hid BZ
      have HBD := Lib.hid BD
      clear hres HT
      go_wp2_with fail
      clear SD SZ ZD ZZ BZ BD
      go_loopg [9, 10] 4 (fun g n i wr => ∃ (k m : Nat), g = 4 - k ∧ k ≤ 3 ∧ m < 128 ^ k ∧ n = .int .i64 m ∧ i = .int .i64 ((k : Int) + 1) ∧ numS 0 0 (l.drop (p + 1)) = numS k m (l.drop (p + 1 + k)) ∧ wr = w1)
      case atStart => exact ⟨0, 0, rfl, by omega, by simp, rfl, rfl, rfl, rfl⟩
      case round =>
        obtain ⟨k, m, hg, hk, hm, rfl, rfl, hN, rfl⟩ := hrel
        have HG := Lib.hid hg
        have HN := Lib.hid hN
        have HM := Lib.hid hm
        have BZ := HBZ.out
        have BD := HBD.out
        have SD := BD.cell
        have ZD := BD.frozen
        have SZ := BZ.cell
        have ZZ := BZ.frozen
        clear hg hN hm
        rcases Nat.lt_or_ge (p + 1 + k) l.length with hkl | hkl
        case inr =>
          have q2 : (l.length : Int) ≤ (p : Int) + ((k : Int) + 1) := by omega
          have hres : readTagS (l.drop p) = .error 3 := by
            have hdn : l.drop (p + 1 + k) = [] := List.drop_eq_nil_of_le hkl
            rw [HR.out, HN.out, hdn]
            rfl
          have HRES := Lib.hid hres
          clear hres
          go_wp2_with fail
          obtain ⟨B5, F5⟩ := set3 BZ (.int .i64 0) (.int .i64 0) (.bool false)
          generalize (((wr.setCell ⟨z, 0, none⟩ (.int .i64 0)).setCell ⟨z, 1, none⟩ (.int .i64 0)).setCell ⟨z, 2, none⟩ (.bool false)) = w5 at *
          have n0 := B5.cell 0
          have n1 := B5.cell 1
          have n2 := B5.cell 2
          simp at n0 n1 n2
          refine bodyPost_ret (v := .tuple #[.agg #[.int .i64 0, .int .i64 0, .bool false], .int .i64 p, .int .i64 3]) (by simp [results, Tryz.results102, go_sem, n0, n1, n2]) rfl ?_
          exact ⟨by rw [HRES.out]; rfl, HF1.out.trans' F5 HZW.out⟩
        case inl =>
          have q2 : ¬ (l.length : Int) ≤ (p : Int) + ((k : Int) + 1) := by omega
          obtain ⟨x2, hx2⟩ : ∃ x, l[p + 1 + k]? = some x := ⟨_, List.getElem?_eq_getElem hkl⟩
          have e2 := HF1.out.cell (HY.out (p + 1 + k) x2 hx2) (fun h => h)
          have hN2 := HN.out
          rw [numS_next (drop_get hx2)] at hN2
          obtain ⟨y2, hy2⟩ : ∃ y, y = x2.toNat := ⟨_, rfl⟩
          have hy256 : y2 < 256 := by rw [hy2]; exact x2.toNat_lt
          rw [← hy2] at e2 hN2
          rw [show o + (p + 1 + k) = o + (p + (k + 1)) from by omega] at e2
          have hin : ((p : Int) + ((k : Int) + 1)).toNat = p + (k + 1) := by omega
          have r2 : (0 : Int) ≤ (p : Int) + ((k : Int) + 1) := by omega
          have r3 : (p : Int) + ((k : Int) + 1) < (l.length : Int) := by omega
          have HN2 := Lib.hid hN2
          clear hN2 hx2 hy2 HN
          by_cases hb1 : (k = 0 ∧ y2 = 128) ∨ k = 3
          · have hres : readTagS (l.drop p) = .error 4 := by rw [HR.out, HN2.out, if_pos hb1]
            have HRES := Lib.hid hres
            clear hres HN2
            have hcond : ((((k : Int) + 1 == 1) = true ∧ ((y2 : Int) == 128) = true)) ∨ ((((k : Int) + 1 == 1) = false) ∧ ((k : Int) + 1 == 4) = true) := by
              rcases hb1 with ⟨h1, h2⟩ | h1
              · exact .inl ⟨by subst h1; rfl, by subst h2; rfl⟩
              · exact .inr ⟨by subst h1; rfl, by subst h1; rfl⟩
            rcases hcond with ⟨g1, g2⟩ | ⟨g1, g2⟩
            all_goals
              go_wp2_with fail
              obtain ⟨B5, F5⟩ := set3 BZ (.int .i64 0) (.int .i64 0) (.bool false)
              generalize (((wr.setCell ⟨z, 0, none⟩ (.int .i64 0)).setCell ⟨z, 1, none⟩ (.int .i64 0)).setCell ⟨z, 2, none⟩ (.bool false)) = w5 at *
              have n0 := B5.cell 0
              have n1 := B5.cell 1
              have n2 := B5.cell 2
              simp at n0 n1 n2
              refine bodyPost_ret (v := .tuple #[.agg #[.int .i64 0, .int .i64 0, .bool false], .int .i64 p, .int .i64 4]) (by simp [results, Tryz.results102, go_sem, n0, n1, n2]) rfl ?_
              exact ⟨by rw [HRES.out]; rfl, HF1.out.trans' F5 HZW.out⟩
          · have hk2 : k ≤ 2 := by omega
            have hm2 := num_small HM.out hk2
            have g4 : ((k : Int) + 1 == 4) = false := beq_eq_false_iff_ne.2 (by omega)
            have hcond : ((((k : Int) + 1 == 1) = true ∧ ((y2 : Int) == 128) = false)) ∨ (((k : Int) + 1 == 1) = false) := by
              rcases Nat.eq_zero_or_pos k with h1 | h1
              · exact .inl ⟨by subst h1; rfl, beq_eq_false_iff_ne.2 (by omega)⟩
              · exact .inr (beq_eq_false_iff_ne.2 (by omega))
            have HL := Lib.hid (num_lt HM.out (show y2 % 128 < 128 by omega))
            obtain ⟨m2, hm3⟩ : ∃ m2, m2 = m * 128 + y2 % 128 := ⟨_, rfl⟩
            have hmi : 128 * (m : Int) + (y2 : Int) % 128 = (m2 : Int) := by omega
            rw [← hm3] at HN2 HL
            have hml : m2 < 2097152 := by omega
            clear hm3
            by_cases h128 : y2 < 128
            · have q3 : (y2 : Int) < 128 := by omega
              by_cases hs : m2 < 31
              · have q4 : (m2 : Int) < 31 := by omega
                have hres : readTagS (l.drop p) = .error 4 := by rw [HR.out, HN2.out, if_neg hb1, if_pos h128, if_pos hs]
                have HRES := Lib.hid hres
                clear hres HN2
                rcases hcond with ⟨g1, g2⟩ | g1
                all_goals
                  go_wp2_with fail
                  obtain ⟨B5, F5⟩ := set3 BZ (.int .i64 0) (.int .i64 0) (.bool false)
                  generalize (((wr.setCell ⟨z, 0, none⟩ (.int .i64 0)).setCell ⟨z, 1, none⟩ (.int .i64 0)).setCell ⟨z, 2, none⟩ (.bool false)) = w5 at *
                  have n0 := B5.cell 0
                  have n1 := B5.cell 1
                  have n2 := B5.cell 2
                  simp at n0 n1 n2
                  refine bodyPost_ret (v := .tuple #[.agg #[.int .i64 0, .int .i64 0, .bool false], .int .i64 p, .int .i64 4]) (by simp [results, Tryz.results102, go_sem, n0, n1, n2]) rfl ?_
                  exact ⟨by rw [HRES.out]; rfl, HF1.out.trans' F5 HZW.out⟩
              · have q4 : ¬ (m2 : Int) < 31 := by omega
                have hres : readTagS (l.drop p) = .ok (⟨c1, m2, c3⟩, k + 1 + 1) := by rw [HR.out, HN2.out, if_neg hb1, if_pos h128, if_neg hs]
                have HRES := Lib.hid hres
                have BD3 := BD.set 1 (.int .i64 m2)
                simp at BD3
                have F3 : Fr (fun q => q = d) wr (wr.setCell ⟨d, 1, none⟩ (.int .i64 m2)) := Fr.setCell (S := fun q => q = d) (p := ⟨d, 1, none⟩) (Fr.refl wr) (fun _ => rfl) _
                have BZ3 := BZ.fr F3 (fun e => hdz e.symm)
                have HF3 := Lib.hid (HF1.out.trans' F3 HDW.out)
                clear hres HN2 F3
                rcases hcond with ⟨g1, g2⟩ | g1
                all_goals
                  go_upto_region 20 with fail
                  generalize (wr.setCell ⟨d, 1, none⟩ (.int .i64 m2)) = w3 at *
                  clear SD ZD SZ ZZ
                  have SD := BD3.cell
                  have SZ := BZ3.cell
                  have ZZ := BZ3.frozen
                  go_wp2_with fail
                  obtain ⟨B5, F5⟩ := set3 BZ3 (.int .i64 c1) (.int .i64 m2) (.bool c3)
                  generalize (((w3.setCell ⟨z, 0, none⟩ (.int .i64 c1)).setCell ⟨z, 1, none⟩ (.int .i64 m2)).setCell ⟨z, 2, none⟩ (.bool c3)) = w5 at *
                  have n0 := B5.cell 0
                  have n1 := B5.cell 1
                  have n2 := B5.cell 2
                  simp at n0 n1 n2
                  refine bodyPost_ret (v := .tuple #[.agg #[.int .i64 c1, .int .i64 m2, .bool c3], .int .i64 ((p : Int) + ((k : Int) + 1) + 1), .int .i64 0]) (by simp [results, Tryz.results102, go_sem, n0, n1, n2]) rfl ?_
                  exact ⟨by rw [HRES.out]; simp only [rTagV, tagV]; rw [show ((p + (k + 1 + 1) : Nat) : Int) = (p : Int) + ((k : Int) + 1) + 1 from by omega], HF3.out.trans' F5 HZW.out⟩
            · have q3 : ¬ (y2 : Int) < 128 := by omega
              have hnx : numS 0 0 (l.drop (p + 1)) = numS (k + 1) m2 (l.drop (p + 1 + (k + 1))) := by rw [HN2.out, if_neg hb1, if_neg h128]; rfl
              have HNX := Lib.hid hnx
              clear hnx HN2
              rcases hcond with ⟨g1, g2⟩ | g1
              all_goals
                go_wp2_with fail
                go_roundg (4 - (k + 1))
                case measure => rw [HG.out]; omega
                case rel => exact ⟨k + 1, m2, rfl, by omega, HL.out, rfl, by go_num, HNX.out, rfl⟩
end Go.Proofs.YtgffhiopbnkjbaaGreatDoor

namespace Go.Proofs.YtgffhiopbnkjbaaGreatDoor
open Go Go.RowKit Go.Q

/-- What ReadLength gives. -/
def rLenV (p : Nat) : Except Int (Nat × Nat) → Value
  | .error e => .tuple #[.int .i64 0, .int .i64 p, .int .i64 e]
  | .ok (v, k) => .tuple #[.int .i64 v, .int .i64 ((p + k : Nat) : Int), .int .i64 0]

set_option maxRecDepth 20000 in
set_option maxHeartbeats 2000000 in
theorem r02ReadLength_any (v : Value) (l : List UInt8) (p : Nat) (w : World) (h : Bytes w v l) (hp : p ≤ l.length) (hlm : l.length ≤ 1099511627776) :
    Calls Tryz.prog 103 #[v, .int .i64 p] w fun e w' => e = .returned (rLenV p (readLenS (l.drop p))) ∧ w = w' := by
  obtain ⟨a, cap, rfl, -, -, hx⟩ := h.form
  have HX := Lib.hid hx
  clear h hx
  rcases Nat.lt_or_ge p l.length with hpl | hpl
  case inr =>
    obtain rfl : p = l.length := by omega
    have hn : readLenS (l.drop l.length) = .error 3 := by rw [List.drop_length]; rfl
    have HN := Lib.hid hn
    clear hn
    go_enter Tryz.func103, Tryz.ntmps103
    go_wp2_with fail
    exact bodyPost_ret (v := .tuple #[.int .i64 0, .int .i64 l.length, .int .i64 3]) (by simp [results, Tryz.results103, go_sem]) rfl ⟨by rw [HN.out]; rfl, rfl⟩
  case inl =>
    obtain ⟨b, o, rfl, hy⟩ := HX.out (by omega)
    obtain ⟨x, hxp⟩ : ∃ x, l[p]? = some x := ⟨_, List.getElem?_eq_getElem hpl⟩
    have ex := hy p x hxp
    have hdp := drop_get hxp
    obtain ⟨y, hyy⟩ : ∃ y, y = x.toNat := ⟨_, rfl⟩
    have hx256 : y < 256 := by rw [hyy]; exact x.toNat_lt
    rw [← hyy] at ex
    have hT : readLenS (l.drop p) = if y < 128 then .ok (y, 1) else if y = 128 ∨ 132 < y then .error 5 else longS (y - 128) (l.drop (p + 1)) := by rw [hdp, hyy]; rfl
    have HT := Lib.hid hT
    have HY := Lib.hid hy
    have r0 : (0 : Int) ≤ (p : Int) := by omega
    have r1 : (p : Int) < (l.length : Int) := by omega
    clear hy hyy hdp hT hxp HX
    by_cases h1 : y < 128
    · have q1 : (y : Int) < 128 := by omega
      have hres : readLenS (l.drop p) = .ok (y, 1) := by rw [HT.out, if_pos h1]
      have HR := Lib.hid hres
      clear hres
      go_enter Tryz.func103, Tryz.ntmps103
      go_wp2_with fail
      exact bodyPost_ret (v := .tuple #[.int .i64 y, .int .i64 ((p : Int) + 1), .int .i64 0]) (by simp [results, Tryz.results103, go_sem]) rfl ⟨by rw [HR.out]; rfl, rfl⟩
    have q1 : ¬ (y : Int) < 128 := by omega
    by_cases h2 : y = 128 ∨ 132 < y
    · have hres : readLenS (l.drop p) = .error 5 := by rw [HT.out, if_neg h1, if_pos h2]
      have HR := Lib.hid hres
      have hc : ((y : Int) == 128) = true ∨ (((y : Int) == 128) = false ∧ (132 : Int) < (y : Int)) := by
        rcases Classical.em (y = 128) with h | h
        · exact .inl (by subst h; rfl)
        · exact .inr ⟨beq_eq_false_iff_ne.2 (by omega), by omega⟩
      clear hres
      rcases hc with g1 | ⟨g1, g2⟩
      all_goals
        go_enter Tryz.func103, Tryz.ntmps103
        go_wp2_with fail
        exact bodyPost_ret (v := .tuple #[.int .i64 0, .int .i64 p, .int .i64 5]) (by simp [results, Tryz.results103, go_sem]) rfl ⟨by rw [HR.out]; rfl, rfl⟩
    have g1 : ((y : Int) == 128) = false := beq_eq_false_iff_ne.2 (by omega)
    have g2 : ¬ (132 : Int) < (y : Int) := by omega
    obtain ⟨n, hn⟩ : ∃ n, n = y - 128 := ⟨_, rfl⟩
    have hn1 : 1 ≤ n := by omega
    have hn4 : n ≤ 4 := by omega
    have hyn : (y : Int) - 128 = (n : Int) := by omega
    have hres : readLenS (l.drop p) = longS n (l.drop (p + 1)) := by rw [HT.out, if_neg h1, if_neg h2, ← hn]
    have HR := Lib.hid hres
    clear hres hn HT
    have hdl : (l.drop (p + 1)).length = l.length - (p + 1) := List.length_drop
    by_cases h3 : l.length - (p + 1) < n
    · have q3 : (l.length : Int) - (p : Int) - 1 < (n : Int) := by omega
      have hres : readLenS (l.drop p) = .error 3 := by rw [HR.out]; unfold longS; rw [hdl, if_pos h3]
      have HRES := Lib.hid hres
      clear hres hdl
      go_enter Tryz.func103, Tryz.ntmps103
      go_wp2_with fail
      exact bodyPost_ret (v := .tuple #[.int .i64 0, .int .i64 p, .int .i64 3]) (by simp [results, Tryz.results103, go_sem]) rfl ⟨by rw [HRES.out]; rfl, rfl⟩
    have q3 : ¬ (l.length : Int) - (p : Int) - 1 < (n : Int) := by omega
    obtain ⟨x1, hx1⟩ : ∃ x, l[p + 1]? = some x := ⟨_, List.getElem?_eq_getElem (by omega)⟩
    have ex1 := HY.out (p + 1) x1 hx1
    obtain ⟨V, hV⟩ : ∃ V, V = beS ((l.drop (p + 1)).take n) := ⟨_, rfl⟩
    have hVl : V < 4294967296 := by rw [hV]; exact be_lt _ (by rw [List.length_take]; omega)
    have hL : longS n (l.drop (p + 1)) = if x1.toNat = 0 ∨ V < 128 then .error 5 else if 16777216 < V then .error 2 else .ok (V, n + 1) := by
      unfold longS
      rw [hdl, if_neg h3, ← hV, drop_get hx1]
      simp
    rw [hL] at HR
    have HV := Lib.hid hV
    obtain ⟨y1, hy1⟩ : ∃ y1, y1 = x1.toNat := ⟨_, rfl⟩
    rw [← hy1] at HR ex1
    have r2 : (p : Int) + 1 < (l.length : Int) := by omega
    have HEX := Lib.hid ex1
    clear hL hdl hx1 hV hy1 ex1
    go_enter Tryz.func103, Tryz.ntmps103
    go_wp2_with fail
    go_loopg [9, 10] n (fun g k i wr => ∃ j : Nat, g = n - j ∧ j ≤ n ∧ k = .int .i64 (beS ((l.drop (p + 1)).take j)) ∧ i = .int .i64 ((j : Int) + 1) ∧ wr = w)
    case atStart => exact ⟨0, rfl, Nat.zero_le _, rfl, rfl, rfl⟩
    case round =>
      obtain ⟨j, hg, hj, rfl, rfl, rfl⟩ := hrel
      have HG := Lib.hid hg
      clear hg
      by_cases hjn : j < n
      · have q4 : (j : Int) + 1 ≤ (n : Int) := by omega
        obtain ⟨x2, hx2⟩ : ∃ x, l[p + 1 + j]? = some x := ⟨_, List.getElem?_eq_getElem (by omega)⟩
        have e2 := HY.out (p + 1 + j) x2 hx2
        have hx3 : (l.drop (p + 1))[j]? = some x2 := by rw [List.getElem?_drop]; exact hx2
        have hbe := be_take hx3
        obtain ⟨K, hK⟩ : ∃ K, K = beS ((l.drop (p + 1)).take j) := ⟨_, rfl⟩
        have hKl : K < 4294967296 := by rw [hK]; exact be_lt _ (by rw [List.length_take]; omega)
        rw [← hK] at hbe ⊢
        have HBE := Lib.hid hbe
        have h256 := x2.toNat_lt
        generalize x2.toNat = y2 at *
        rw [show o + (p + 1 + j) = o + (p + (j + 1)) from by omega] at e2
        have hin : ((p : Int) + ((j : Int) + 1)).toNat = p + (j + 1) := by omega
        have r2 : (0 : Int) ≤ (p : Int) + ((j : Int) + 1) := by omega
        have r3 : (p : Int) + ((j : Int) + 1) < (l.length : Int) := by omega
        have hy2 : y2 < 256 := by omega
        clear hbe hK hx2 hx3 h256
        go_wp2_with fail
        go_roundg (n - (j + 1))
        case measure => rw [HG.out]; omega
        case rel => exact ⟨j + 1, rfl, by omega, by rw [HBE.out]; go_num, by go_num, rfl⟩
      · obtain rfl : j = n := by omega
        have q4 : ¬ (j : Int) + 1 ≤ (j : Int) := by omega
        rw [← HV.out]
        have e1 := HEX.out
        have hin : ((p : Int) + 1).toNat = p + 1 := by omega
        have r3 : (0 : Int) ≤ (p : Int) + 1 := by omega
        by_cases h4 : y1 = 0 ∨ V < 128
        · have hres : readLenS (l.drop p) = .error 5 := by rw [HR.out, if_pos h4]
          have HRES := Lib.hid hres
          have hc : ((y1 : Int) == 0) = true ∨ (((y1 : Int) == 0) = false ∧ (V : Int) < 128) := by
            rcases Classical.em (y1 = 0) with h | h
            · exact .inl (by subst h; rfl)
            · exact .inr ⟨beq_eq_false_iff_ne.2 (by omega), by omega⟩
          clear hres
          rcases hc with g3 | ⟨g3, g4⟩
          all_goals
            go_wp2_with fail
            exact bodyPost_ret (v := .tuple #[.int .i64 0, .int .i64 p, .int .i64 5]) (by simp [results, Tryz.results103, go_sem]) rfl ⟨by rw [HRES.out]; rfl, rfl⟩
        · have g3 : ((y1 : Int) == 0) = false := beq_eq_false_iff_ne.2 (by omega)
          have g4 : ¬ (V : Int) < 128 := by omega
          by_cases h5 : 16777216 < V
          · have g5 : (16777216 : Int) < (V : Int) := by omega
            have hres : readLenS (l.drop p) = .error 2 := by rw [HR.out, if_neg h4, if_pos h5]
            have HRES := Lib.hid hres
            clear hres
            go_wp2_with fail
            exact bodyPost_ret (v := .tuple #[.int .i64 0, .int .i64 p, .int .i64 2]) (by simp [results, Tryz.results103, go_sem]) rfl ⟨by rw [HRES.out]; rfl, rfl⟩
          · have g5 : ¬ (16777216 : Int) < (V : Int) := by omega
            have hres : readLenS (l.drop p) = .ok (V, j + 1) := by rw [HR.out, if_neg h4, if_neg h5]
            have HRES := Lib.hid hres
            clear hres
            go_wp2_with fail
            exact bodyPost_ret (v := .tuple #[.int .i64 V, .int .i64 ((p : Int) + (j : Int) + 1), .int .i64 0]) (by simp [results, Tryz.results103, go_sem]) rfl ⟨by rw [HRES.out]; simp only [rLenV]; rw [show ((p + (j + 1) : Nat) : Int) = (p : Int) + (j : Int) + 1 from by omega], rfl⟩
end Go.Proofs.YtgffhiopbnkjbaaGreatDoor

namespace Go.Proofs.YtgffhiopbnkjbaaGreatDoor
open Go Go.RowKit Go.Q
set_option linter.unusedSimpArgs false

/-- What Read gives. -/
def rReadV (p : Nat) : Except Int (Tag × Nat × Nat) → Value
  | .error e => .tuple #[tagV ⟨0, 0, false⟩, .int .i64 0, .int .i64 p, .int .i64 e]
  | .ok (t, n, k) => .tuple #[tagV t, .int .i64 n, .int .i64 ((p + k : Nat) : Int), .int .i64 0]
theorem readTag_le {l : List UInt8} {t : Tag} {k : Nat} (h : readTagS l = .ok (t, k)) : k ≤ l.length := by
  cases l with
  | nil => simp [readTagS] at h
  | cons x r =>
    simp only [readTagS] at h
    split at h
    · simp only [Except.ok.injEq, Prod.mk.injEq] at h
      simp only [List.length_cons]
      omega
    · split at h
      · cases h
      · rename_i n k' he
        have := (numS_pos he).2
        simp only [Except.ok.injEq, Prod.mk.injEq] at h
        simp only [List.length_cons]
        omega

set_option maxRecDepth 20000 in
set_option maxHeartbeats 2000000 in
theorem r02Read_any (v : Value) (l : List UInt8) (p : Nat) (w : World) (h : Bytes w v l) (hp : p ≤ l.length) (hlm : l.length ≤ 1099511627776) :
    Calls Tryz.prog 68 #[v, .int .i64 p] w fun e w' => e = .returned (rReadV p (readS (l.drop p))) ∧ Fr (fun _ => False) w w' := by
  obtain ⟨a, cap, rfl, -⟩ := h.form
  obtain ⟨z, hz⟩ : ∃ z, z = w.heap.size := ⟨_, rfl⟩
  have BZ := Blk.new w 36 #[.int .i64 0, .int .i64 0, .bool false]
  have F0 : Fr (fun _ => False) w (w.alloc (.cells #[.int .i64 0, .int .i64 0, .bool false] 36)) := (Fr.refl w).alloc _
  rw [← hz] at BZ
  have hzw : ∀ k, k < w.heap.size → k = z → False := fun k hk e => by omega
  have HZ := Lib.hid hz
  have HT := Lib.hid (r02ReadTag_any _ l p _ (h.old F0) hp hlm)
  have HB := Lib.hid h
  have HF0 := Lib.hid F0
  have HZW := Lib.hid hzw
  have hR : readS (l.drop p) = match readTagS (l.drop p) with
    | .error e => .error e
    | .ok (t, k) => match readLenS ((l.drop p).drop k) with
      | .error e => .error e
      | .ok (n, m) => .ok (t, n, k + m) := rfl
  have HR := Lib.hid hR
  clear h hz F0 hzw hR
  go_enter Tryz.func68, Tryz.ntmps68
  go_upto_region 1 with fail
  rw [← HZ.out]
  generalize (w.alloc (.cells #[.int .i64 0, .int .i64 0, .bool false] 36)) = w0 at *
  go_wp2_with fail
  refine HT.out.mono ?_
  rintro e w1 ⟨rfl, F⟩
  replace BZ := BZ.fr F (fun h => h)
  have HF := Lib.hid (HF0.out.trans F)
  clear F HF0 HT
  cases ht : readTagS (l.drop p) with
  | error e =>
    have he : e ≠ 0 := readTagS_err ht
    have he1 : (e == 0) = false := beq_eq_false_iff_ne.2 he
    have he2 : (e != 0) = true := by simpa using he
    have hres : readS (l.drop p) = .error e := by rw [HR.out, ht]
    have HRES := Lib.hid hres
    clear ht hres he
    rw [show rTagV p (.error e) = .tuple #[.agg #[.int .i64 0, .int .i64 0, .bool false], .int .i64 p, .int .i64 e] from rfl]
    go_upto_region 2 with fail
    obtain ⟨d, hd⟩ : ∃ d, d = w1.heap.size := ⟨_, rfl⟩
    have BD := Blk.new w1 36 #[.int .i64 0, .int .i64 0, .bool false]
    have F1 : Fr (fun _ => False) w1 (w1.alloc (.cells #[.int .i64 0, .int .i64 0, .bool false] 36)) := (Fr.refl w1).alloc _
    have hzl := BZ.lt
    replace BZ := BZ.fr F1 (fun h => h)
    have HF1 := Lib.hid (HF.out.trans F1)
    rw [← hd] at BD ⊢
    have hdz : d ≠ z := by omega
    clear hd F1 hzl HF
    generalize (w1.alloc (.cells #[.int .i64 0, .int .i64 0, .bool false] 36)) = w2 at *
    have SZ := BZ.cell
    have ZZ := BZ.frozen
    go_wp2_with fail
    obtain ⟨B5, F5⟩ := set3 BZ (.int .i64 0) (.int .i64 0) (.bool false)
    generalize (((w2.setCell ⟨z, 0, none⟩ (.int .i64 0)).setCell ⟨z, 1, none⟩ (.int .i64 0)).setCell ⟨z, 2, none⟩ (.bool false)) = w5 at *
    have n0 := B5.cell 0
    have n1 := B5.cell 1
    have n2 := B5.cell 2
    simp at n0 n1 n2
    refine bodyPost_ret (v := .tuple #[.agg #[.int .i64 0, .int .i64 0, .bool false], .int .i64 0, .int .i64 p, .int .i64 e]) (by simp [results, Tryz.results68, go_sem, n0, n1, n2]) rfl ?_
    exact ⟨by rw [HRES.out]; rfl, HF1.out.trans' F5 HZW.out⟩
  | ok tk =>
    obtain ⟨⟨c1, c2, c3⟩, k⟩ := tk
    have hk := readTag_le ht
    rw [List.length_drop] at hk
    have hres : readS (l.drop p) = match readLenS (l.drop (p + k)) with
      | .error e => .error e
      | .ok (n, m) => .ok (⟨c1, c2, c3⟩, n, k + m) := by rw [HR.out, ht]; simp only [List.drop_drop]
    have HRES := Lib.hid hres
    clear ht hres
    rw [show rTagV p (.ok (⟨c1, c2, c3⟩, k)) = .tuple #[.agg #[.int .i64 c1, .int .i64 c2, .bool c3], .int .i64 ((p + k : Nat) : Int), .int .i64 0] from rfl]
    generalize hq : p + k = q at *
    go_upto_region 2 with fail
    obtain ⟨d, hd⟩ : ∃ d, d = w1.heap.size := ⟨_, rfl⟩
    have BD := Blk.new w1 36 #[.int .i64 c1, .int .i64 c2, .bool c3]
    have F1 : Fr (fun _ => False) w1 (w1.alloc (.cells #[.int .i64 c1, .int .i64 c2, .bool c3] 36)) := (Fr.refl w1).alloc _
    have hzl := BZ.lt
    replace BZ := BZ.fr F1 (fun h => h)
    have HF1 := Lib.hid (HF.out.trans F1)
    rw [← hd] at BD ⊢
    have hdz : d ≠ z := by omega
    clear hd F1 hzl HF
    generalize (w1.alloc (.cells #[.int .i64 c1, .int .i64 c2, .bool c3] 36)) = w2 at *
    have HL := Lib.hid (r02ReadLength_any _ l q w2 (HB.out.old HF1.out) (by omega) hlm)
    have SZ := BZ.cell
    have ZZ := BZ.frozen
    have SD := BD.cell
    go_wp2_with fail
    refine HL.out.mono ?_
    rintro e w3 ⟨rfl, rfl⟩
    cases hl : readLenS (l.drop q) with
    | error e =>
      have he : e ≠ 0 := readLenS_err hl
      have he1 : (e == 0) = false := beq_eq_false_iff_ne.2 he
      have he2 : (e != 0) = true := by simpa using he
      have hres : readS (l.drop p) = .error e := by rw [HRES.out, hl]
      have HRES2 := Lib.hid hres
      clear hl hres he
      rw [show rLenV q (.error e) = .tuple #[.int .i64 0, .int .i64 q, .int .i64 e] from rfl]
      go_wp2_with fail
      obtain ⟨B5, F5⟩ := set3 BZ (.int .i64 0) (.int .i64 0) (.bool false)
      generalize (((w2.setCell ⟨z, 0, none⟩ (.int .i64 0)).setCell ⟨z, 1, none⟩ (.int .i64 0)).setCell ⟨z, 2, none⟩ (.bool false)) = w5 at *
      have n0 := B5.cell 0
      have n1 := B5.cell 1
      have n2 := B5.cell 2
      simp at n0 n1 n2
      refine bodyPost_ret (v := .tuple #[.agg #[.int .i64 0, .int .i64 0, .bool false], .int .i64 0, .int .i64 p, .int .i64 e]) (by simp [results, Tryz.results68, go_sem, n0, n1, n2]) rfl ?_
      exact ⟨by rw [HRES2.out]; rfl, HF1.out.trans' F5 HZW.out⟩
    | ok vm =>
      obtain ⟨n, m⟩ := vm
      have hres : readS (l.drop p) = .ok (⟨c1, c2, c3⟩, n, k + m) := by rw [HRES.out, hl]
      have HRES2 := Lib.hid hres
      clear hl hres
      rw [show rLenV q (.ok (n, m)) = .tuple #[.int .i64 n, .int .i64 ((q + m : Nat) : Int), .int .i64 0] from rfl]
      generalize hr : q + m = r at *
      go_wp2_with fail
      obtain ⟨B5, F5⟩ := set3 BZ (.int .i64 c1) (.int .i64 c2) (.bool c3)
      generalize (((w2.setCell ⟨z, 0, none⟩ (.int .i64 c1)).setCell ⟨z, 1, none⟩ (.int .i64 c2)).setCell ⟨z, 2, none⟩ (.bool c3)) = w5 at *
      have n0 := B5.cell 0
      have n1 := B5.cell 1
      have n2 := B5.cell 2
      simp at n0 n1 n2
      refine bodyPost_ret (v := .tuple #[.agg #[.int .i64 c1, .int .i64 c2, .bool c3], .int .i64 n, .int .i64 r, .int .i64 0]) (by simp [results, Tryz.results68, go_sem, n0, n1, n2]) rfl ?_
      exact ⟨by rw [HRES2.out]; simp only [rReadV, tagV]; rw [show p + (k + m) = r from by omega], HF1.out.trans' F5 HZW.out⟩

end Go.Proofs.YtgffhiopbnkjbaaGreatDoor

namespace Go.Q
open Go
theorem readLen_le {l : List UInt8} {v k : Nat} (h : readLenS l = .ok (v, k)) : k ≤ l.length ∧ v ≤ 16777216 := by
  cases l with
  | nil => simp [readLenS] at h
  | cons x t =>
    simp only [readLenS] at h
    split at h
    · simp only [Except.ok.injEq, Prod.mk.injEq] at h
      simp only [List.length_cons]
      omega
    · split at h
      · cases h
      · unfold longS at h
        split at h
        · cases h
        split at h
        · cases h
        split at h
        · cases h
        · simp only [Except.ok.injEq, Prod.mk.injEq] at h
          simp only [List.length_cons]
          omega
theorem readS_le {l : List UInt8} {t : Tag} {n k : Nat} (h : readS l = .ok (t, n, k)) : k ≤ l.length ∧ n ≤ 16777216 := by
  unfold readS at h
  split at h
  · cases h
  · rename_i t' k' he
    have h1 := Go.Proofs.YtgffhiopbnkjbaaGreatDoor.readTag_le he
    split at h
    · cases h
    · rename_i v m hl
      have h2 := readLen_le hl
      rw [List.length_drop] at h2
      simp only [Except.ok.injEq, Prod.mk.injEq] at h
      omega
end Go.Q

namespace Go.Q
open Go Go.RowKit
theorem Vals.part {w : World} {a : Option Addr} {m cap : Nat} {l : List UInt8} (h : Bytes w (.slice a m cap) l) (i n : Nat) (hij : i + n ≤ l.length) (a' : Option Addr) (cap' : Nat) (ha : 0 < n → ∀ b o, a = some ⟨b, o, none⟩ → a' = some ⟨b, o + i, none⟩) (hc : n ≤ cap') (hm : cap' ≤ maxLen) : Bytes w (.slice a' n cap') ((l.drop i).take n) := by
  obtain ⟨a0, c0, he, -⟩ := Vals.form h
  simp only [Value.slice.injEq] at he
  obtain ⟨rfl, rfl, rfl⟩ := he
  have := Vals.sub h i (i + n) (by omega) hij a' cap' (fun h0 => ha (by omega)) (by omega) hm
  rw [show i + n - i = n from by omega] at this
  unfold Bytes Lib.byteCells
  rw [List.map_take, List.map_drop]
  exact this
end Go.Q
namespace Go.Proofs.YtgffhiopbnkjbaaGreatDoor
open Go Go.RowKit Go.Q
set_option linter.unusedSimpArgs false

/-- What Read gives. -/
def RTextOut (wb : World) (l : List UInt8) (p : Nat) (e : Ending) : Prop :=
  match textReadS (l.drop p) with
  | .error x => e = .returned (.tuple #[.agg #[.int .i64 0, .slice none 0 0], .int .i64 p, .int .i64 x])
  | .ok (k, b, n) => ∃ u, e = .returned (.tuple #[.agg #[.int .i64 k, u], .int .i64 ((p + n : Nat) : Int), .int .i64 0]) ∧ Bytes wb u b

set_option maxRecDepth 20000 in
set_option maxHeartbeats 4000000 in
theorem r06Read_any (v : Value) (l : List UInt8) (p : Nat) (wb w : World) (hb : Bytes wb v l) (Fb : Fr (fun _ => False) wb w) (hp : p ≤ l.length) (hl : l.length ≤ 16777216) :
    Calls Tryz.prog 58 #[v, .int .i64 p, .slice none 0 0] w fun e w' => RTextOut wb l p e ∧ Fr (fun _ => False) w w' := by
  have h := hb.old Fb
  have HBB := Lib.hid hb
  clear hb Fb
  obtain ⟨a, cap, rfl, hcap, hcm, hx⟩ := h.form
  obtain ⟨z, hz⟩ : ∃ z, z = w.heap.size := ⟨_, rfl⟩
  have BZ := Blk.new w 25 #[.int .i64 0, .slice none 0 0]
  have F0 : Fr (fun _ => False) w (w.alloc (.cells #[.int .i64 0, .slice none 0 0] 25)) := (Fr.refl w).alloc _
  rw [← hz] at BZ
  have hzw : ∀ k, k < w.heap.size → k = z → False := fun k hk e => by omega
  have HZ := Lib.hid hz
  have HT := Lib.hid (r02Read_any _ l p _ (h.old F0) hp (by omega))
  have HB := Lib.hid h
  have HF0 := Lib.hid F0
  have HZW := Lib.hid hzw
  have HX := Lib.hid hx
  have hR : textReadS (l.drop p) = match readS (l.drop p) with
    | .error e => .error e
    | .ok (t, n, k) => if t.cls ≠ 0 ∨ t.made = true ∨ Go.Q.kindOk t.num = false then .error 4 else if (l.drop p).length - k < n then .error 3 else
      if rightS t.num (((l.drop p).drop k).take n) = true then .ok (t.num, ((l.drop p).drop k).take n, k + n) else .error 6 := rfl
  have HR := Lib.hid hR
  clear h hx hz F0 hzw hR
  go_enter Tryz.func58, Tryz.ntmps58
  go_upto_region 1 with fail
  rw [← HZ.out]
  generalize (w.alloc (.cells #[.int .i64 0, .slice none 0 0] 25)) = w0 at *
  go_wp2_with fail
  refine HT.out.mono ?_
  rintro e w1 ⟨rfl, F⟩
  replace BZ := BZ.fr F (fun h => h)
  have HF := Lib.hid (HF0.out.trans F)
  clear F HF0 HT
  cases ht : readS (l.drop p) with
  | error e =>
    have he : e ≠ 0 := readS_err ht
    have he1 : (e == 0) = false := beq_eq_false_iff_ne.2 he
    have he2 : (e != 0) = true := by simpa using he
    have hres : textReadS (l.drop p) = .error e := by rw [HR.out, ht]
    have HRES := Lib.hid hres
    clear ht hres he
    rw [show rReadV p (.error e) = .tuple #[.agg #[.int .i64 0, .int .i64 0, .bool false], .int .i64 0, .int .i64 p, .int .i64 e] from rfl]
    go_upto_region 2 with fail
    have F1 : Fr (fun _ => False) w1 (w1.alloc (.cells #[.int .i64 0, .int .i64 0, .bool false] 36)) := (Fr.refl w1).alloc _
    replace BZ := BZ.fr F1 (fun h => h)
    have HF1 := Lib.hid (HF.out.trans F1)
    clear F1 HF
    generalize (w1.alloc (.cells #[.int .i64 0, .int .i64 0, .bool false] 36)) = w2 at *
    have SZ := BZ.cell
    have ZZ := BZ.frozen
    go_wp2_with fail
    obtain ⟨B5, F5⟩ := set2 BZ (.int .i64 0) (.slice none 0 0)
    generalize ((w2.setCell ⟨z, 0, none⟩ (.int .i64 0)).setCell ⟨z, 1, none⟩ (.slice none 0 0)) = w5 at *
    have n0 := B5.cell 0
    have n1 := B5.cell 1
    simp at n0 n1
    refine bodyPost_ret (v := .tuple #[.agg #[.int .i64 0, .slice none 0 0], .int .i64 p, .int .i64 e]) (by simp [results, Tryz.results58, go_sem, n0, n1]) rfl ?_
    exact ⟨by unfold RTextOut; rw [HRES.out], HF1.out.trans' F5 HZW.out⟩
  | ok tnk =>
    obtain ⟨⟨c1, c2, c3⟩, n, k⟩ := tnk
    rw [show rReadV p (.ok (⟨c1, c2, c3⟩, n, k)) = .tuple #[.agg #[.int .i64 c1, .int .i64 c2, .bool c3], .int .i64 n, .int .i64 ((p + k : Nat) : Int), .int .i64 0] from rfl]
    have hk := (readS_le ht).1
    rw [List.length_drop] at hk
    generalize hq : p + k = q at *
    have hres : textReadS (l.drop p) = if c1 ≠ 0 ∨ c3 = true ∨ Go.Q.kindOk c2 = false then .error 4 else if l.length - q < n then .error 3 else
      if rightS c2 ((l.drop q).take n) = true then .ok (c2, (l.drop q).take n, k + n) else .error 6 := by
      rw [HR.out, ht]
      simp only [List.length_drop, List.drop_drop, hq, Nat.sub_sub]
    have HRES := Lib.hid hres
    have hq1 : q ≤ l.length := by omega
    have hnl := (readS_le ht).2
    clear ht hres
    go_upto_region 2 with fail
    have F1 : Fr (fun _ => False) w1 (w1.alloc (.cells #[.int .i64 c1, .int .i64 c2, .bool c3] 36)) := (Fr.refl w1).alloc _
    obtain ⟨d, hd⟩ : ∃ d, d = w1.heap.size := ⟨_, rfl⟩
    have BD := Blk.new w1 36 #[.int .i64 c1, .int .i64 c2, .bool c3]
    rw [← hd] at BD ⊢
    replace BZ := BZ.fr F1 (fun h => h)
    have HF1 := Lib.hid (HF.out.trans F1)
    clear F1 HF hd
    generalize (w1.alloc (.cells #[.int .i64 c1, .int .i64 c2, .bool c3] 36)) = w2 at *
    have SZ := BZ.cell
    have ZZ := BZ.frozen
    have SD := BD.cell
    go_wp2_with fail
    refine (r06Kind_any c2 w2).mono ?_
    rintro e w' ⟨rfl, rfl⟩
    obtain ⟨K, hK⟩ : ∃ K, K = Go.Q.kindOk c2 := ⟨_, rfl⟩
    rw [← hK] at HRES ⊢
    clear hK
    go_wp2_with fail
    go_loopg [13, 14] 1 (fun g ok i wr => g = 1 ∧ ok = .bool K ∧ i = .int .i64 0 ∧ wr = w2)
    case atStart => exact ⟨rfl, rfl, rfl, rfl⟩
    case round =>
      obtain ⟨-, rfl, rfl, rfl⟩ := hrel
      by_cases hbad : c1 ≠ 0 ∨ c3 = true ∨ K = false
      · have hE : textReadS (l.drop p) = .error 4 := by rw [HRES.out, if_pos hbad]
        have HE := Lib.hid hE
        clear hE HRES
        have hc : K = false ∨ (K = true ∧ (c1 == 0) = false ∧ (c1 != 0) = true) ∨ (K = true ∧ (c1 == 0) = true ∧ (c1 != 0) = false ∧ c3 = true) := by
          cases K with
          | false => exact .inl rfl
          | true =>
            by_cases h1 : c1 = 0
            · subst h1
              refine .inr (.inr ⟨rfl, rfl, rfl, ?_⟩)
              simpa using hbad
            · exact .inr (.inl ⟨rfl, beq_eq_false_iff_ne.2 h1, by simpa using h1⟩)
        clear hbad
        rcases hc with rfl | ⟨rfl, g1, g2⟩ | ⟨rfl, g1, g2, rfl⟩
        all_goals
          go_wp2_with fail
          obtain ⟨B5, F5⟩ := set2 BZ (.int .i64 0) (.slice none 0 0)
          generalize ((wr.setCell ⟨z, 0, none⟩ (.int .i64 0)).setCell ⟨z, 1, none⟩ (.slice none 0 0)) = w5 at *
          have n0 := B5.cell 0
          have n1 := B5.cell 1
          simp at n0 n1
          refine bodyPost_ret (v := .tuple #[.agg #[.int .i64 0, .slice none 0 0], .int .i64 p, .int .i64 4]) (by simp [results, Tryz.results58, go_sem, n0, n1]) rfl ?_
          exact ⟨by unfold RTextOut; rw [HE.out], HF1.out.trans' F5 HZW.out⟩
      · have hc : c1 = 0 ∧ c3 = false ∧ K = true := by
          refine ⟨Classical.byContradiction fun h => hbad (.inl h), ?_, ?_⟩
          · cases c3 with
            | false => rfl
            | true => exact absurd (.inr (.inl rfl)) hbad
          · cases K with
            | true => rfl
            | false => exact absurd (.inr (.inr rfl)) hbad
        obtain ⟨rfl, rfl, rfl⟩ := hc
        have hres := HRES.out
        rw [if_neg hbad] at hres
        have HRES2 := Lib.hid hres
        clear HRES hres hbad
        by_cases h3 : l.length - q < n
        · have q3 : (l.length : Int) - (q : Int) < (n : Int) := by omega
          have hE : textReadS (l.drop p) = .error 3 := by rw [HRES2.out, if_pos h3]
          have HE := Lib.hid hE
          clear hE HRES2
          go_wp2_with fail
          obtain ⟨B5, F5⟩ := set2 BZ (.int .i64 0) (.slice none 0 0)
          generalize ((wr.setCell ⟨z, 0, none⟩ (.int .i64 0)).setCell ⟨z, 1, none⟩ (.slice none 0 0)) = w5 at *
          have n0 := B5.cell 0
          have n1 := B5.cell 1
          simp at n0 n1
          refine bodyPost_ret (v := .tuple #[.agg #[.int .i64 0, .slice none 0 0], .int .i64 p, .int .i64 3]) (by simp [results, Tryz.results58, go_sem, n0, n1]) rfl ?_
          exact ⟨by unfold RTextOut; rw [HE.out], HF1.out.trans' F5 HZW.out⟩
        · have q3 : ¬ (l.length : Int) - (q : Int) < (n : Int) := by omega
          have hres := HRES2.out
          rw [if_neg h3] at hres
          have HRES := Lib.hid hres
          have r1 : (0 : Int) ≤ (q : Int) := by omega
          obtain ⟨sm, hsm⟩ : ∃ sm, sm = q + n := ⟨_, rfl⟩
          have hsi : (q : Int) + (n : Int) = (sm : Int) := by omega
          have hwi : IntKind.i64.wrap (sm : Int) = (sm : Int) := by simp [IntKind.wrap, IntKind.signed, IntKind.bits]; omega
          have r2 : (q : Int) ≤ (sm : Int) := by omega
          have r2N : q ≤ sm := by omega
          have r3 : (sm : Int) ≤ (cap : Int) := by omega
          have r3N : sm ≤ cap := by omega
          have r4 : (0 : Int) ≤ (sm : Int) := by omega
          have HSM := Lib.hid hsm
          have hcm2 : cap ≤ 9223372036854775807 := by unfold maxLen at hcm; omega
          clear hres HRES2 hsm
          go_upto_region 13 with fail
          have hcapq : (cap - q : Nat) ≤ maxLen := by omega
          obtain ⟨A, hA⟩ : ∃ A, A = (if cap = q then a else Option.map (fun x => x.add q) a) := ⟨_, rfl⟩
          have hA2 : 0 < n → ∀ b o, a = some ⟨b, o, none⟩ → A = some ⟨b, o + q, none⟩ := fun h0 b o e => by
            subst e
            rw [hA, if_neg (by omega)]
            show some ((⟨b, o, none⟩ : Addr).add q) = _
            congr 1
            unfold Addr.add
            split <;> simp_all
          have hsn : sm - q = n := by have := HSM.out; omega
          have hVB := Vals.part HB.out q n (by omega) A (cap - q) hA2 (by have := HSM.out; omega) hcapq
          have hVW := Vals.part HBB.out q n (by omega) A (cap - q) hA2 (by have := HSM.out; omega) hcapq
          have HVW := Lib.hid hVW
          have HVO := Lib.hid hVB.lt
          have HVB := Lib.hid (hVB.old HF1.out)
          have HA := Lib.hid hA
          obtain ⟨cp, hcp⟩ : ∃ cp, cp = cap - q := ⟨_, rfl⟩
          rw [← hcp] at HVB HVO HVW
          have HCP := Lib.hid hcp
          have HSN := Lib.hid hsn
          clear hA hA2 hVB hVW hcapq hcp hsn
          go_cut [15] from 76 to 84 (fun s wc => s = pt wr.heap.size ∧ wc = (wr.alloc (.cells #[.int .i64 c2, .slice A n cp] 25)).drew)
          case first =>
            have SD := BD.drew.cell
            have SD2 := (BD.alloc (.cells #[.int .i64 0, .slice none 0 0] 25)).cell
            have hA2 := HA.out.symm
            have hcp2 := HCP.out.symm
            have hsn2 := HSN.out
            go_region_law fail
            all_goals
              go_wp2_with fail
              go_meet
              first | exact ⟨rfl, rfl⟩ | exact ⟨rfl, by rw [HA.out, HCP.out]⟩
          case rest =>
            obtain ⟨rfl, rfl⟩ := hcut
            obtain ⟨tb, htb⟩ : ∃ tb, tb = wr.heap.size := ⟨_, rfl⟩
            have BT := (Blk.new wr 25 #[.int .i64 c2, .slice A n cp]).drew
            have F6 : Fr (fun _ => False) wr (wr.alloc (.cells #[.int .i64 c2, .slice A n cp] 25)).drew := ((Fr.refl wr).alloc _).drew
            rw [← htb] at BT ⊢
            have BZ4 := BZ.fr F6 (fun h => h)
            have HV4 := Lib.hid (HVB.out.old F6)
            have HF6 := Lib.hid (HF1.out.trans F6)
            clear F6 htb HVB HF1
            generalize (wr.alloc (.cells #[.int .i64 c2, .slice A n cp] 25)).drew = w4 at *
            obtain ⟨C, hC⟩ : ∃ C, C = (l.drop q).take n := ⟨_, rfl⟩
            have hCl : C.length = n := by rw [hC, List.length_take, List.length_drop]; omega
            rw [← hC] at HV4 HRES HVO HVW
            have hS := r06Signs_any c2 _ C w4 HV4.out (by omega)
            unfold RSigOut at hS
            have HS := Lib.hid hS
            have t0 := BT.cell 0
            have t1 := BT.cell 1
            simp only [List.getElem?_toArray, List.getElem?_cons_succ, List.getElem?_cons_zero] at t0 t1
            clear hC hS
            go_wp2_with fail
            refine HS.out.mono ?_
            rintro e w6 ⟨v6, rfl, -, F7⟩
            have BZ6 := BZ4.fr F7 (fun h => h)
            have BT6 := BT.fr F7 (fun h => h)
            have HF7 := Lib.hid (HF6.out.trans F7)
            have HV6 := Lib.hid (HV4.out.old F7)
            clear t0 t1 F7 HS
            have t0 := BT6.cell 0
            have t1 := BT6.cell 1
            simp only [List.getElem?_toArray, List.getElem?_cons_succ, List.getElem?_cons_zero] at t0 t1
            have SZ := BZ6.cell
            have ZZ := BZ6.frozen
            rw [sigR_iff]
            by_cases hr : rightS c2 C = true
            · have hres := HRES.out
              rw [if_pos hr] at hres
              have HE := Lib.hid hres
              rw [if_pos hr]
              rw [Option.isSome_some]
              clear hres hr
              go_wp2_with fail
              obtain ⟨B5, F5⟩ := set2 BZ6 (.int .i64 c2) (.slice A n cp)
              generalize ((w6.setCell ⟨z, 0, none⟩ (.int .i64 c2)).setCell ⟨z, 1, none⟩ (.slice A n cp)) = w5 at *
              have n0 := B5.cell 0
              have n1 := B5.cell 1
              simp at n0 n1
              refine bodyPost_ret (v := .tuple #[.agg #[.int .i64 c2, .slice A n cp], .int .i64 sm, .int .i64 0]) (by simp [results, Tryz.results58, go_sem, n0, n1]) rfl ?_
              refine ⟨?_, HF7.out.trans' F5 HZW.out⟩
              unfold RTextOut
              rw [HE.out]
              refine ⟨_, by rw [show ((p + (k + n) : Nat) : Int) = (sm : Int) from by have := HSM.out; omega], ?_⟩
              exact HVW.out
            · have hres := HRES.out
              rw [if_neg hr] at hres
              have HE := Lib.hid hres
              rw [if_neg hr]
              rw [Option.isSome_none]
              clear hres hr
              go_wp2_with fail
              obtain ⟨B5, F5⟩ := set2 BZ6 (.int .i64 0) (.slice none 0 0)
              generalize ((w6.setCell ⟨z, 0, none⟩ (.int .i64 0)).setCell ⟨z, 1, none⟩ (.slice none 0 0)) = w5 at *
              have n0 := B5.cell 0
              have n1 := B5.cell 1
              simp at n0 n1
              refine bodyPost_ret (v := .tuple #[.agg #[.int .i64 0, .slice none 0 0], .int .i64 p, .int .i64 6]) (by simp [results, Tryz.results58, go_sem, n0, n1]) rfl ?_
              exact ⟨by unfold RTextOut; rw [HE.out], HF7.out.trans' F5 HZW.out⟩
end Go.Proofs.YtgffhiopbnkjbaaGreatDoor

namespace Go.Q
open Go
theorem one_err {l : List UInt8} {e : Int} (h : readS l = .error e) : oneS l = .error e := by unfold oneS; rw [h]
theorem one_end {l : List UInt8} {t : Tag} {n k : Nat} (h : readS l = .ok (t, n, k)) (hn : l.length - k < n) : oneS l = .error 3 := by unfold oneS; rw [h]; exact if_pos hn
theorem one_ok {l : List UInt8} {t : Tag} {n k : Nat} (h : readS l = .ok (t, n, k)) (hn : ¬ l.length - k < n) : oneS l = .ok (t, k, k + n) := by unfold oneS; rw [h]; exact if_neg hn
end Go.Q
namespace Go.Proofs.YtgffhiopbnkjbaaGreatDoor
open Go Go.RowKit Go.Q
set_option linter.unusedSimpArgs false

set_option maxRecDepth 20000 in
set_option maxHeartbeats 2000000 in
theorem r08Wholes_any (v : Value) (l : List UInt8) (w : World) (h : Bytes w v l) (hl : l.length ≤ 16777216) :
    Calls Tryz.prog 118 #[v, .int .i64 0] w fun e w' => wholesOut (allS l) e ∧ Fr (fun _ => False) w w' := by
  obtain ⟨a, cap, rfl, hcap, hcm, -⟩ := h.form
  have H := Lib.hid h
  have hcm2 : cap ≤ 9223372036854775807 := by unfold maxLen at hcm; omega
  clear h
  go_enter Tryz.func118, Tryz.ntmps118
  go_wp2_with fail
  go_loopg [1, 6] l.length (fun g pp ls wr => ∃ (q : Nat) (a2 : Option Addr) (m c2 : Nat) (xs : List Value), g = l.length - q ∧ q ≤ l.length ∧ m ≤ q ∧ pp = .int .i64 q ∧ ls = .slice a2 m c2 ∧ wr.ownsRow w.heap.size 23 1 (.slice a2 m c2) m xs ∧ Fr (fun _ => False) w wr ∧ (∀ e, allS (l.drop q) = .error e → allS l = .error e) ∧ (∀ ls, allS (l.drop q) = .ok ls → ∃ ls', allS l = .ok ls' ∧ ls'.length = m + ls.length))
  case atStart => exact ⟨0, none, 0, 0, [], rfl, Nat.zero_le _, Nat.le_refl _, rfl, rfl, ⟨rfl, .inl ⟨rfl, rfl⟩⟩, Fr.refl _, fun e h => h, fun ls h => ⟨ls, h, by omega⟩⟩
  case round =>
    obtain ⟨q, a2, m, c2, xs, hg, hq, hmq, rfl, rfl, ho, F, hE, hO⟩ := hrel
    have HG := Lib.hid hg
    have HE := Lib.hid hE
    have HO := Lib.hid hO
    have HOW := Lib.hid ho
    have HF := Lib.hid F
    have hv := Lib.hid (Vals.of_own ho).2
    clear hg hE hO ho F
    by_cases hql : q < l.length
    · have q1 : (q : Int) < (l.length : Int) := by omega
      have hne : l.drop q ≠ [] := fun e => by have := drop_nil e; omega
      have HNE := Lib.hid hne
      have HR := Lib.hid (r02Read_any _ l q wr (H.out.old HF.out) hq (by omega))
      clear hne
      go_wp2_with fail
      refine HR.out.mono ?_
      rintro e w2 ⟨rfl, F2⟩
      have HOW2 := Lib.hid (ownsRow_fr HOW.out F2 (fun _ _ h => h))
      have HF2 := Lib.hid (HF.out.trans F2)
      clear HR HOW HF F2
      cases hr : readS (l.drop q) with
      | error x =>
        have hx : x ≠ 0 := readS_err hr
        have hx1 : (x == 0) = false := beq_eq_false_iff_ne.2 hx
        have hx2 : (x != 0) = true := by simpa using hx
        have hA := Lib.hid (HE.out x (allS_err HNE.out (one_err hr)))
        rw [show rReadV q (.error x) = .tuple #[.agg #[.int .i64 0, .int .i64 0, .bool false], .int .i64 0, .int .i64 q, .int .i64 x] from rfl]
        clear hr hx
        go_wp2_with fail
        refine bodyPost_ret (v := .tuple #[.slice none 0 0, .int .i64 x]) (by simp [results, Tryz.results118, go_sem]) rfl ⟨?_, HF2.out.alloc _⟩
        rw [hA.out]
        rfl
      | ok tnk =>
        obtain ⟨⟨t1, t2, t3⟩, n, k⟩ := tnk
        rw [show rReadV q (.ok (⟨t1, t2, t3⟩, n, k)) = .tuple #[.agg #[.int .i64 t1, .int .i64 t2, .bool t3], .int .i64 n, .int .i64 ((q + k : Nat) : Int), .int .i64 0] from rfl]
        have hk := (readS_le hr).1
        have hn16 := (readS_le hr).2
        have hkp := readS_pos hr
        rw [List.length_drop] at hk
        by_cases h3 : (l.drop q).length - k < n
        · have hA := Lib.hid (HE.out 3 (allS_err HNE.out (one_end hr h3)))
          rw [List.length_drop] at h3
          obtain ⟨s, hs⟩ : ∃ s, s = q + k := ⟨_, rfl⟩
          rw [← hs]
          have q3 : (l.length : Int) - (s : Int) < (n : Int) := by omega
          have hsl : s ≤ l.length := by omega
          clear hr hs
          go_wp2_with fail
          refine bodyPost_ret (v := .tuple #[.slice none 0 0, .int .i64 3]) (by simp [results, Tryz.results118, go_sem]) rfl ⟨?_, HF2.out.alloc _⟩
          rw [hA.out]
          rfl
        · have hA := Lib.hid (allS_ok HNE.out (one_ok hr h3))
          rw [List.length_drop] at h3
          obtain ⟨s, hs⟩ : ∃ s, s = q + k := ⟨_, rfl⟩
          rw [← hs]
          obtain ⟨r, hrr⟩ : ∃ r, r = s + n := ⟨_, rfl⟩
          have q3 : ¬ (l.length : Int) - (s : Int) < (n : Int) := by omega
          have hsl : s ≤ l.length := by omega
          have hsi : (s : Int) + (n : Int) = (r : Int) := by omega
          have hwi : IntKind.i64.wrap (r : Int) = (r : Int) := by simp [IntKind.wrap, IntKind.signed, IntKind.bits]; omega
          have r0 : (0 : Int) ≤ (q : Int) := by omega
          have r1 : (0 : Int) ≤ (r : Int) := by omega
          have r2 : (q : Int) ≤ (r : Int) := by omega
          have r2N : q ≤ r := by omega
          have r3 : (r : Int) ≤ (cap : Int) := by omega
          have r3N : r ≤ cap := by omega
          have hql2 : q ≤ cap := by omega
          have hrl : r ≤ l.length := by omega
          have hrk : r = q + (k + n) := by omega
          have hqr : q < r := by omega
          have HRK := Lib.hid hrk
          obtain ⟨A, hA2⟩ : ∃ A, A = Option.map (fun x => x.add q) a := ⟨_, rfl⟩
          obtain ⟨cp, hcp⟩ : ∃ cp, cp = cap - q := ⟨_, rfl⟩
          obtain ⟨rm, hrm⟩ : ∃ rm, rm = r - q := ⟨_, rfl⟩
          obtain ⟨gg, hgg⟩ : ∃ gg, gg = w2.heap.size + 1 := ⟨_, rfl⟩
          have BU := Blk.new (w2.alloc (.cells #[.int .i64 t1, .int .i64 t2, .bool t3] 36)) 23 #[.slice A rm cp]
          rw [World.size_alloc, ← hgg] at BU
          have F3 : Fr (fun _ => False) w2 ((w2.alloc (.cells #[.int .i64 t1, .int .i64 t2, .bool t3] 36)).alloc (.cells #[.slice A rm cp] 23)) := ((Fr.refl w2).alloc _).alloc _
          obtain ⟨v', w', hrun, ho7, F7, -⟩ := append_one (ownsRow_fr HOW2.out F3 (fun _ _ h => h)) gg _ BU rfl (by omega) ((HF2.out.trans F3).size)
          obtain ⟨a7, n7, c7, rfl, hn7⟩ := own_shape ho7
          subst hn7
          have HF7 := Lib.hid ((HF2.out.trans F3).trans' F7 (fun i hi e => absurd hi (by have := (hv.out i e).1; omega)))
          have HO7 := Lib.hid ho7
          have HRUN := Lib.hid hrun
          replace hA2 := hA2.symm
          replace hcp := hcp.symm
          replace hrm := hrm.symm
          have HGG := Lib.hid hgg
          clear hr hs hrr hrk hgg BU F3 hrun F7 ho7
          go_wp2_with (at_builtin; refine wpList_append_run (by rfl) (.tmp 32) (.tmp 39) 137 (by rfl) _ w' (by have h := HRUN.out; rw [HGG.out] at h; exact h) ?_)
          go_roundg (l.length - r)
          case measure => rw [HG.out]; omega
          refine ⟨r, a7, m + 1, c7, xs ++ [.slice A rm cp], rfl, hrl, by omega, rfl, rfl, HO7.out, HF7.out, fun e h => ?_, fun ls h => ?_⟩
          · rw [HRK.out, ← List.drop_drop] at h
            exact HE.out e (by rw [hA.out, h])
          · rw [HRK.out, ← List.drop_drop] at h
            obtain ⟨ls', h1, h2⟩ := HO.out _ (by rw [hA.out, h])
            exact ⟨ls', h1, by rw [h2]; simp only [List.length_cons]; omega⟩
    · have q1 : ¬ (q : Int) < (l.length : Int) := by omega
      have hd : l.drop q = [] := List.drop_eq_nil_of_le (by omega)
      obtain ⟨ls', h1, h2⟩ := HO.out [] (by rw [hd]; rfl)
      have H1 := Lib.hid h1
      have H2 := Lib.hid h2
      clear h1 h2 hd
      go_wp2_with fail
      refine bodyPost_ret (v := .tuple #[.slice a2 m c2, .int .i64 0]) (by simp [results, Tryz.results118, go_sem]) rfl ⟨?_, HF.out⟩
      rw [H1.out]
      exact ⟨a2, c2, by rw [H2.out]; simp⟩
end Go.Proofs.YtgffhiopbnkjbaaGreatDoor

namespace Go.Q
open Go Go.RowKit
theorem up7_zero (f : Nat) : up7 f 0 = [] := by cases f <;> simp [up7]
theorem up7_ge : ∀ (f m : Nat), m < 128 ^ f → up7 (f + 1) m = up7 f m
  | 0, m, h => by simp at h; subst h; simp [up7]
  | f + 1, m, h => by
    by_cases h0 : m = 0
    · subst h0; simp [up7]
    · have ih := up7_ge f (m / 128) (by rw [Nat.pow_succ] at h; omega)
      rw [up7, if_neg h0, ih]
      rw [up7, if_neg h0]
theorem base128_small {n : Nat} (h : n < 128) : base128 n = [UInt8.ofNat n] := by
  unfold base128
  rw [show n / 128 = 0 from by omega, up7_zero, show n % 128 = n from by omega]
  rfl
theorem base128_step {n : Nat} (h : 128 ≤ n) (hn : n ≤ 2147483647) : ∃ front : List UInt8, base128 (n / 128) = front ++ [UInt8.ofNat (n / 128 % 128)] ∧ base128 n = front ++ [UInt8.ofNat (n / 128 % 128 + 128)] ++ [UInt8.ofNat (n % 128)] := by
  refine ⟨(up7 5 (n / 128 / 128)).reverse, by simp [base128], ?_⟩
  have e : up7 5 (n / 128) = UInt8.ofNat (n / 128 % 128 + 128) :: up7 4 (n / 128 / 128) := by rw [up7, if_neg (by omega)]
  have e2 : up7 5 (n / 128 / 128) = up7 4 (n / 128 / 128) := up7_ge 4 _ (Nat.lt_of_le_of_lt (show n / 128 / 128 ≤ 131071 by omega) (by decide))
  unfold base128
  rw [e, e2]
  simp
/-- Setting a cell of a row of one's own. -/
theorem own_set {w : World} {base n : Nat} {e : TypeId} {a : Option Addr} {m c : Nat} {xs : List Value} (h : w.ownsRow base e 1 (.slice a m c) n xs) (i : Nat) (hi : i < n) (u : Value) :
    ∃ g, a = some ⟨g, 0, none⟩ ∧ base ≤ g ∧ g < w.heap.size ∧ m = n ∧ n ≤ c ∧ c ≤ maxLen ∧ w.frozen? ⟨g, i, none⟩ = false ∧ w.cell? ⟨g, i, none⟩ = xs[i]? ∧ (w.setCell ⟨g, i, none⟩ u).ownsRow base e 1 (.slice a m c) n (xs.set i u) ∧ Fr (fun k => k = g) w (w.setCell ⟨g, i, none⟩ u) := by
  obtain ⟨h1, h2⟩ := h
  rcases h2 with ⟨he, h0⟩ | ⟨g, cap, cur, he, hg, hh, hnc, hcm, hcs, htk⟩
  · omega
  · simp only [Value.slice.injEq] at he
    obtain ⟨rfl, rfl, rfl⟩ := he
    have B : Blk w g e cur := hh
    simp only [Nat.mul_one] at h1 hcs htk
    refine ⟨g, rfl, hg, B.lt, rfl, hnc, hcm, B.frozen i, ?_, ⟨by simpa using h1, .inr ⟨g, c, cur.setIfInBounds i u, rfl, hg, B.set i u, hnc, hcm, by simpa using hcs, ?_⟩⟩, Fr.setCell (S := fun k => k = g) (p := ⟨g, i, none⟩) (Fr.refl w) (fun _ => rfl) _⟩
    · rw [B.cell, ← htk, List.getElem?_take, if_pos hi, Array.getElem?_toList]
    · rw [Nat.mul_one, Array.toList_setIfInBounds, ← htk, List.take_set]
end Go.Q

namespace Go.Proofs.YtgffhiopbnkjbaaGreatDoor
open Go Go.RowKit Go.Q
set_option linter.unusedSimpArgs false

set_option maxRecDepth 20000 in
set_option maxHeartbeats 2000000 in
theorem r04digits_any : ∀ (n : Nat), n ≤ 2147483647 → ∀ (w : World),
    Calls Tryz.prog 205 #[.int .i64 n] w fun e w' => ∃ v, e = .returned v ∧ w'.ownsRow w.heap.size 5 1 v (base128 n).length (Lib.byteCells (base128 n)) ∧ Fr (fun _ => False) w w' := by
  intro n
  induction n using Nat.strongRecOn with
  | _ n ih =>
  intro hn w
  by_cases h128 : n < 128
  · have q1 : (n : Int) < 128 := by omega
    have hL := base128_small h128
    rw [hL]
    have hw8 : IntKind.u8.wrap (n : Int) = (n : Int) := by simp [IntKind.wrap, IntKind.signed, IntKind.bits]; omega
    have hk : (w.alloc (.cells #[.int .u8 n] 5)).ownsRow w.heap.size 5 1 (.slice (some ⟨w.heap.size, 0, none⟩) 1 1) 1 (Lib.byteCells [UInt8.ofNat n]) := by
      have e8 := u8 n (by omega)
      have BX := Blk.new w 5 #[.int .u8 n]
      have BX' : Blk (w.alloc (.cells #[.int .u8 n] 5)) w.heap.size 5 (Lib.byteCells [UInt8.ofNat n]).toArray := by
        simpa [Lib.byteCells, e8] using BX
      exact own_bytes BX' (by simp) w.heap.size (Nat.le_refl _)
    have HK := Lib.hid hk
    clear hk hL ih
    go_enter Tryz.func205, Tryz.ntmps205
    go_wp2_with fail
    go_ret
    exact ⟨_, rfl, HK.out, (Fr.refl w).alloc _⟩
  · have q1 : ¬ (n : Int) < 128 := by omega
    obtain ⟨front, e1, e2⟩ := base128_step (n := n) (by omega) hn
    have HC := Lib.hid (ih (n / 128) (by omega) (by omega) w)
    have hq : (n : Int) / 128 = ((n / 128 : Nat) : Int) := by omega
    have HE1 := Lib.hid e1
    have HE2 := Lib.hid e2
    obtain ⟨y, hy⟩ : ∃ y, y = n / 128 % 128 := ⟨_, rfl⟩
    have hyl : y < 128 := by omega
    rw [← hy] at HE1 HE2
    obtain ⟨r, hr⟩ : ∃ r, r = n % 128 := ⟨_, rfl⟩
    have hrl : r < 128 := by omega
    rw [← hr] at HE2
    have hri : (n : Int) % 128 = (r : Int) := by omega
    have hw8 : IntKind.u8.wrap (r : Int) = (r : Int) := by simp [IntKind.wrap, IntKind.signed, IntKind.bits]; omega
    have hw9 : IntKind.u8.wrap ((y : Int) + 128) = (y : Int) + 128 := by simp [IntKind.wrap, IntKind.signed, IntKind.bits]; omega
    generalize n / 128 = m at *
    clear ih e1 e2 hy hr
    go_enter Tryz.func205, Tryz.ntmps205
    go_wp2_with fail
    refine HC.out.mono ?_
    rintro e w1 ⟨v, rfl, ho, F1⟩
    obtain ⟨a, l, c, rfl, rfl⟩ := own_shape ho
    rw [HE1.out] at ho
    have hbl : (base128 m).length = front.length + 1 := by rw [HE1.out]; simp
    rw [hbl]
    have hcells : Lib.byteCells (front ++ [UInt8.ofNat y]) = Lib.byteCells front ++ [.int .u8 y] := by
      have := u8 y (by omega)
      simp [Lib.byteCells, this]
    have hlen : (front ++ [UInt8.ofNat y]).length = front.length + 1 := by simp
    rw [hlen, hcells] at ho
    obtain ⟨g, rfl, hg1, hg2, -, hlc, hcm, hfz, hcell, hset, F2⟩ := own_set ho front.length (by omega) (.int .u8 ((y : Int) + 128))
    have hfl : (Lib.byteCells front).length = front.length := byteCells_len front
    rw [List.getElem?_append_right (by omega), hfl, Nat.sub_self] at hcell
    simp only [List.getElem?_cons_zero] at hcell
    have hcells2 : (Lib.byteCells front ++ [Value.int .u8 y]).set front.length (.int .u8 ((y : Int) + 128)) = Lib.byteCells (front ++ [UInt8.ofNat (y + 128)]) := by
      have := u8 (y + 128) (by omega)
      rw [List.set_append_right _ _ (by omega), hfl, Nat.sub_self]
      simp [Lib.byteCells, this]
      try omega
    rw [hcells2] at hset
    have HSET := Lib.hid hset
    have HF2 := Lib.hid (F1.trans' F2 (fun i hi e => by omega))
    have hi1 : ((front.length + 1 : Nat) : Int) - 1 = (front.length : Int) := by omega
    have hln : front.length < 1000 := by
      have : (base128 m).length ≤ 6 := by
        unfold base128
        have h5 := up7_len 5 (m / 128)
        simp only [List.length_reverse, List.length_cons]
        omega
      omega
    clear ho hset F1 F2 HC hcells hcells2 hlen hbl hfl
    go_upto_region 5 with fail
    generalize (w1.setCell ⟨g, front.length, none⟩ (.int .u8 ((y : Int) + 128))) = w2 at *
    have BX := Blk.new w2 5 #[.int .u8 r]
    have F3 : Fr (fun _ => False) w2 (w2.alloc (.cells #[.int .u8 r] 5)) := (Fr.refl w2).alloc _
    have hsrc : Bytes (w2.alloc (.cells #[.int .u8 r] 5)) (.slice (some ⟨w2.heap.size, 0, none⟩) 1 1) [UInt8.ofNat r] := by
      have e8 := u8 r (by omega)
      have BX' : Blk (w2.alloc (.cells #[.int .u8 r] 5)) w2.heap.size 5 (Lib.byteCells [UInt8.ofNat r]).toArray := by
        simpa [Lib.byteCells, e8] using BX
      exact Vals.of_block BX' (by simp [Lib.byteCells]; unfold maxLen; omega)
    have hs2 := HF2.out.size
    obtain ⟨v4, w4, hr4, ho4, F4, _⟩ := append_bytes (ownsRow_fr HSET.out F3 (fun _ _ h => h)) (some ⟨w2.heap.size, 0, none⟩) 1 1 [UInt8.ofNat r] hsrc (by omega) (Nat.le_trans hs2 F3.size)
    have hvb := (Vals.of_own HSET.out).2
    have HF4 := Lib.hid ((HF2.out.trans F3).trans' F4 (fun i hi e => by have := hvb i e; omega))
    obtain ⟨a4, c4, rfl, -⟩ := (Vals.of_own ho4).1
    rw [← HE2.out] at ho4 hr4
    have hbn : (base128 n).length = front.length + 1 + 1 := by rw [HE2.out]; simp
    rw [← hbn] at ho4
    have HO4 := Lib.hid ho4
    have HRUN := Lib.hid hr4
    clear ho4 hr4 F4 F3 hvb BX hsrc hbn HF2 HSET
    go_wp2_with (at_builtin; refine wpList_append_run (by rfl) (.tmp 24) (.tmp 28) 23 (by rfl) _ w4 (by exact HRUN.out) ?_)
    exact bodyPost_ret (v := .slice a4 (Lib.byteCells (base128 n)).length c4) (by simp [results, Tryz.results205, go_sem]) rfl ⟨_, rfl, HO4.out, HF4.out⟩

set_option maxRecDepth 20000 in
set_option maxHeartbeats 2000000 in
theorem r04Contents_any (v : Value) (o : List Int) (w : World) (h : Ints w v o) (ho : oidOk o = true) :
    Calls Tryz.prog 159 #[v] w fun e w' => ∃ v', e = .returned v' ∧ w'.ownsRow w.heap.size 5 1 v' (oidBytes o).length (Lib.byteCells (oidBytes o)) ∧ Fr (fun _ => False) w w' := by
  obtain ⟨hnm, hol, hol2, hno⟩ := nums_ok ho
  obtain ⟨a, cap, rfl, -, -, hx⟩ := Ints.form h
  obtain ⟨b, off, rfl, hy⟩ := hx (by omega)
  obtain ⟨x0, hx0⟩ : ∃ x, o[0]? = some x := ⟨_, List.getElem?_eq_getElem (by omega)⟩
  obtain ⟨x1, hx1⟩ : ∃ x, o[1]? = some x := ⟨_, List.getElem?_eq_getElem (by omega)⟩
  have e0 := hy 0 x0 hx0
  have e1 := hy 1 x1 hx1
  obtain ⟨N, hN⟩ : ∃ N, N = numsS o := ⟨_, rfl⟩
  have hN0 : N[0]? = some (40 * x0 + x1) := by rw [hN]; simp [numsS, List.getD, hx0, hx1]
  have hNs : ∀ i, N[i + 1]? = o[i + 2]? := fun i => by
    rw [hN]
    simp only [numsS, List.getElem?_cons_succ, List.getElem?_drop]
    congr 1
    omega
  have hob : oidBytes o = N.flatMap fun n => base128 n.toNat := by rw [hN]; rfl
  rw [← hN] at hnm hno
  rw [hob]
  have h0 := hno _ (List.mem_of_getElem? hN0)
  obtain ⟨m, hm⟩ : ∃ m : Nat, 40 * x0 + x1 = (m : Int) := ⟨(40 * x0 + x1).toNat, by omega⟩
  have hml : m ≤ 2147483647 := by omega
  have hft1 : ((N.take 1).flatMap fun n => base128 n.toNat) = base128 m := by
    have : N.take 1 = [(m : Int)] := by
      rw [show (1 : Nat) = 0 + 1 from rfl, List.take_add_one, hN0, hm]
      rfl
    rw [this]
    simp
  have hwm : 40 * x0 ≤ 4611686018427387904 ∧ -4611686018427387904 ≤ 40 * x0 := by
    have g : ∀ i, i < o.length → arcOk (o.getD i 0) = true := fun i hi => by
      simp only [oidOk, Bool.and_eq_true, decide_eq_true_eq] at ho
      rw [List.getD_eq_getElem?_getD, List.getElem?_eq_getElem hi]
      exact List.all_eq_true.1 ho.1.2 _ (List.getElem_mem hi)
    have g0 := g 0 (by omega)
    simp only [arcOk, List.getD, hx0, Option.getD_some, decide_eq_true_eq] at g0
    omega
  obtain ⟨M, hM⟩ : ∃ M, M = (N.flatMap fun n => base128 n.toNat).length := ⟨_, rfl⟩
  rw [← hM]
  have HM := Lib.hid hM
  clear hM
  have HY := Lib.hid hy
  have HNO := Lib.hid hno
  have HNS := Lib.hid hNs
  have HFT1 := Lib.hid hft1
  have r2 : ¬ (o.length : Int) < 2 := by omega
  have r0 : (0 : Int) < (o.length : Int) := by omega
  have r1 : (1 : Int) < (o.length : Int) := by omega
  have r0N : 0 < o.length := by omega
  have r1N : 1 < o.length := by omega
  have hw1 : IntKind.i64.wrap (40 * x0) = 40 * x0 := by simp [IntKind.wrap, IntKind.signed, IntKind.bits]; omega
  have hw2 : IntKind.i64.wrap (m : Int) = (m : Int) := by simp [IntKind.wrap, IntKind.signed, IntKind.bits]; omega
  simp only [Nat.add_zero] at e0
  have G : Fr (fun _ => False) w w.drew := (Fr.refl w).drew
  clear h hx hy hx0 hx1 hN0 hNs hN hob h0 hno hft1 ho
  go_enter Tryz.func159, Tryz.ntmps159
  go_upto_region 3 with fail
  have E0 : w.drew.cell? ⟨b, off, none⟩ = some (.int .i64 x0) := e0
  have E1 : w.drew.cell? ⟨b, off + 1, none⟩ = some (.int .i64 x1) := e1
  go_region_held3 (fun w' => w'.cell? ⟨b, off, none⟩ = some (.int .i64 x0) ∧ w'.cell? ⟨b, off + 1, none⟩ = some (.int .i64 x1)) (exact ⟨E0, E1⟩) (first | (go_at_call 205; (try rw [hw2]); refine (r04digits_any m hml _).mono ?_; rintro e w' ⟨v, rfl, hv, F⟩; obtain ⟨av, mv, cv, rfl, rfl⟩ := own_shape hv; replace E0 := F.cell E0 (fun h => h); replace E1 := F.cell E1 (fun h => h); replace G := G.trans F))
  all_goals
    rw [World.size_drew] at hv
    have HV := Lib.hid hv
    have HG0 := Lib.hid G
    obtain ⟨L0, hL0⟩ : ∃ L0, L0 = (base128 m).length := ⟨_, rfl⟩
    rw [← hL0] at HV ⊢
    have HL0 := Lib.hid hL0
    clear hv G F E0 E1 e0 e1 hL0
    go_wp2_with fail
    go_loopg [3, 4] (o.length - 1) (fun g u i wr => ∃ (j : Nat) (L : Nat) (a1 : Option Addr) (c1 : Nat), g = o.length - j ∧ 1 ≤ j ∧ j + 1 ≤ o.length ∧ u = .slice a1 L c1 ∧ i = .int .i64 ((j : Int) + 1) ∧ L = ((N.take j).flatMap fun n => base128 n.toNat).length ∧ wr.ownsRow w.heap.size 5 1 (.slice a1 L c1) L (Lib.byteCells ((N.take j).flatMap fun n => base128 n.toNat)) ∧ Fr (fun _ => False) w wr)
    case atStart => exact ⟨1, L0, av, cv, rfl, Nat.le_refl _, by omega, rfl, rfl, by rw [HFT1.out, HL0.out], by rw [HFT1.out]; exact HV.out, HG0.out⟩
    case round =>
      obtain ⟨j, L, a1, c1, hg, hj1, hj2, rfl, rfl, hL, ho1, F1⟩ := hrel
      have HG := Lib.hid hg
      have HO1 := Lib.hid ho1
      have HF1 := Lib.hid F1
      have HL := Lib.hid hL
      have hLl : L ≤ 2000 := by
        have h1 := flat128_len (N.take j)
        rw [← hL, List.length_take] at h1
        omega
      clear hg ho1 hL
      by_cases hjl : j + 1 < o.length
      · obtain ⟨x, hxj⟩ : ∃ x, o[j + 1]? = some x := ⟨_, List.getElem?_eq_getElem hjl⟩
        have ex := F1.cell (HY.out (j + 1) x hxj) (fun h => h)
        have hNj : N[j]? = some x := by
          have := HNS.out (j - 1)
          rw [show j - 1 + 1 = j from by omega, show j - 1 + 2 = j + 1 from by omega, hxj] at this
          exact this
        have hxb := HNO.out x (List.mem_of_getElem? hNj)
        obtain ⟨y, hyx⟩ : ∃ y : Nat, x = (y : Int) := ⟨x.toNat, by omega⟩
        subst hyx
        have hft : ((N.take (j + 1)).flatMap fun n => base128 n.toNat) = ((N.take j).flatMap fun n => base128 n.toNat) ++ base128 y := by
          rw [List.take_add_one, hNj]
          simp
        have HFT := Lib.hid hft
        have q1 : (0 : Int) ≤ (j : Int) + 1 := by omega
        have q2 : (j : Int) + 1 < (o.length : Int) := by omega
        have hin : ((j : Int) + 1).toNat = j + 1 := by omega
        have HD := Lib.hid (r04digits_any y (by omega) wr)
        clear hxj hNj hft F1
        go_wp2_with fail
        refine HD.out.mono ?_
        rintro e w3 ⟨v3, rfl, ho3, F3⟩
        obtain ⟨a3, l3, c3, rfl, rfl⟩ := own_shape ho3
        have hs1 := HF1.out.size
        have hv3 := (Vals.of_own ho3).1
        have hbl := (base128_len y).1
        obtain ⟨v4, w4, hr4, ho4, F4, _⟩ := append_bytes (ownsRow_fr HO1.out F3 (fun _ _ h => h)) a3 (base128 y).length c3 (base128 y) hv3 (by omega) (Nat.le_trans hs1 F3.size)
        have hvb := (Vals.of_own HO1.out).2
        have HF4 := Lib.hid ((HF1.out.trans F3).trans' F4 (fun i hi e => by have := hvb i e; omega))
        obtain ⟨a4, m4, c4, rfl, rfl⟩ := own_shape ho4
        rw [← HFT.out] at ho4
        have HO4 := Lib.hid ho4
        have HRUN := Lib.hid hr4
        clear ho4 hr4 F4 F3 hvb ho3 hv3 HO1 HF1
        go_wp2_with (at_builtin; refine wpList_append_run (by rfl) (.tmp 23) (.tmp 28) 23 (by rfl) _ w4 (by exact HRUN.out) ?_)
        go_roundg (o.length - (j + 1))
        case measure => rw [HG.out]; omega
        case rel => exact ⟨j + 1, L + (base128 y).length, a4, c4, rfl, by omega, by omega, rfl, by go_num, by rw [HFT.out, List.length_append, ← HL.out], HO4.out, HF4.out⟩
      · have q2 : ¬ (j : Int) + 1 < (o.length : Int) := by omega
        have hall : N.take j = N := List.take_of_length_le (by omega)
        have hlo := HL.out
        have ho1 := HO1.out
        rw [hall] at hlo ho1
        have HO2 := Lib.hid ho1
        have HLO := Lib.hid hlo
        clear hall hlo ho1 HO1 HL
        go_wp2_with fail
        exact bodyPost_ret (v := .slice a1 L c1) (by simp [results, Tryz.results159, go_sem]) rfl ⟨_, rfl, by rw [HM.out, ← HLO.out]; exact HO2.out, HF1.out⟩

set_option maxRecDepth 20000 in
set_option maxHeartbeats 2000000 in
theorem r04Whole_any (v : Value) (o : List Int) (w : World) (h : Ints w v o) (ho : oidOk o = true) :
    Calls Tryz.prog 119 #[v] w fun e w' => ∃ v', e = .returned v' ∧ w'.ownsRow w.heap.size 5 1 v' (oidWhole o).length (Lib.byteCells (oidWhole o)) ∧ Fr (fun _ => False) w w' := by
  have hol := oidBytes_len (nums_ok ho).2.1
  have HB := Lib.hid h
  have HO := Lib.hid ho
  clear h ho
  go_enter Tryz.func119, Tryz.ntmps119
  go_wp2_with fail
  refine (r02Of_any 6 w).mono ?_
  rintro e w1 ⟨rfl, F1⟩
  have HF1 := Lib.hid F1
  rw [show tagV (tagOf 6) = .agg #[.int .i64 0, .int .i64 6, .bool false] from rfl]
  clear F1
  go_wp2_with fail
  refine (r04Contents_any v o w1 (HB.out.old HF1.out) HO.out).mono ?_
  rintro e w2 ⟨v2, rfl, ho2, F2⟩
  have hB2 := (Vals.of_own ho2).1
  obtain ⟨a2, c2, rfl, -⟩ := hB2.form
  have HB2 := Lib.hid hB2
  have HF2 := Lib.hid (HF1.out.trans F2)
  clear ho2 hB2 F2
  go_wp2_with fail
  refine (r02Wrap_any (tagOf 6) (good_of (by omega) (by omega)) _ (oidBytes o) w2 HB2.out (by omega)).mono ?_
  rintro e w3 ⟨v3, rfl, ho3, F3⟩
  obtain ⟨a3, m3, c3, rfl, rfl⟩ := own_shape ho3
  have HO3 := Lib.hid (own_le ho3 HF2.out.size)
  have HF3 := Lib.hid (HF2.out.trans F3)
  clear ho3 F3
  go_wp2_with fail
  exact bodyPost_ret (v := .slice a3 _ c3) (by simp [results, Tryz.results119, go_sem]) rfl ⟨_, rfl, HO3.out, HF3.out⟩
end Go.Proofs.YtgffhiopbnkjbaaGreatDoor

namespace Go.Proofs.YtgffhiopbnkjbaaGreatDoor
open Go Go.RowKit Go.Q
set_option linter.unusedSimpArgs false

/-- What the reference's Whole gives. -/
def rWholeOut (w w' : World) (o : List Int) (b : List UInt8) (e : Ending) : Prop :=
  match attrS o b with
  | none => e = .returned (.tuple #[.slice none 0 0, .bool false])
  | some x => ∃ v, e = .returned (.tuple #[v, .bool true]) ∧ w'.ownsRow w.heap.size 5 1 v x.length (Lib.byteCells x)

set_option maxRecDepth 20000 in
set_option maxHeartbeats 2000000 in
theorem r14Whole_any (x y : Value) (o : List Int) (b : List UInt8) (w : World) (hx : Ints w x o) (hy : Bytes w y b) (hl : b.length ≤ 10000000) :
    Calls Tryz.prog 82 #[.agg #[x, y]] w fun e w' => rWholeOut w w' o b e ∧ Fr (fun _ => False) w w' := by
  obtain ⟨ax, cx, rfl, -⟩ := Ints.form hx
  obtain ⟨ay, cy, rfl, -⟩ := Vals.form hy
  obtain ⟨z, hz⟩ : ∃ z, z = w.heap.size := ⟨_, rfl⟩
  have BZ := Blk.new w 63 #[.slice ax o.length cx, .slice ay b.length cy]
  have F0 : Fr (fun _ => False) w (w.alloc (.cells #[.slice ax o.length cx, .slice ay b.length cy] 63)) := (Fr.refl w).alloc _
  have HX := Lib.hid (hx.old F0)
  have HY := Lib.hid (hy.old F0)
  rw [← hz] at BZ
  have HF0 := Lib.hid F0
  have HZ := Lib.hid hz
  clear hx hy F0 hz
  go_enter Tryz.func82, Tryz.ntmps82
  go_upto_region 1 with fail
  rw [← HZ.out]
  generalize (w.alloc (.cells #[.slice ax o.length cx, .slice ay b.length cy] 63)) = w0 at *
  have z1 := BZ.cell 1
  simp only [List.getElem?_toArray, List.getElem?_cons_succ, List.getElem?_cons_zero] at z1
  go_wp2_with fail
  refine (r08Wholes_any _ b w0 HY.out (by omega)).mono ?_
  rintro e w1 ⟨hout, F1⟩
  have BZ1 := BZ.fr F1 (fun h => h)
  have HF1 := Lib.hid (HF0.out.trans F1)
  have HX1 := Lib.hid (HX.out.old F1)
  have HY1 := Lib.hid (HY.out.old F1)
  unfold wholesOut at hout
  clear HX HY HF0 F1 BZ z1
  cases hr : allS b with
  | error x =>
    rw [hr] at hout
    subst hout
    have hx0 : x ≠ 0 := allS_pos hr
    have hx1 : (x == 0) = false := beq_eq_false_iff_ne.2 hx0
    have hx2 : (x != 0) = true := by simpa using hx0
    have hn : attrS o b = none := by unfold attrS singleB; rw [hr, Bool.and_false]; rfl
    have HN := Lib.hid hn
    clear hn hr hx0
    go_wp2_with fail
    refine bodyPost_ret (v := .tuple #[.slice none 0 0, .bool false]) (by simp [results, Tryz.results82, go_sem]) rfl ⟨?_, HF1.out⟩
    unfold rWholeOut
    rw [HN.out]
  | ok ls =>
    rw [hr] at hout
    obtain ⟨al, cl, rfl⟩ := hout
    by_cases h1 : ls.length = 1
    · have hs : singleB b = true := by unfold singleB; rw [hr]; simp [h1]
      have q1 : ((ls.length : Int) == 1) = true := by rw [h1]; rfl
      have q2 : ((ls.length : Int) != 1) = false := by rw [h1]; rfl
      have q3 : (ls.length == 1) = true := by rw [h1]; rfl
      have q4 : (ls.length != 1) = false := by rw [h1]; rfl
      have HRI := Lib.hid (r04Right_any _ o w1 HX1.out)
      have z0 := BZ1.cell 0
      simp only [List.getElem?_toArray, List.getElem?_cons_succ, List.getElem?_cons_zero] at z0
      clear hr h1
      cases ho : oidOk o with
      | false =>
        rw [ho] at HRI
        have hn : attrS o b = none := by unfold attrS; rw [ho]; rfl
        have HN := Lib.hid hn
        clear hn ho
        go_wp2_with fail
        refine HRI.out.mono ?_
        rintro e w2 ⟨rfl, rfl⟩
        go_wp2_with fail
        refine bodyPost_ret (v := .tuple #[.slice none 0 0, .bool false]) (by simp [results, Tryz.results82, go_sem]) rfl ⟨?_, HF1.out⟩
        unfold rWholeOut
        rw [HN.out]
      | true =>
        rw [ho] at HRI
        have hn : attrS o b = some (wrapS (tagOf 16) (oidWhole o ++ b)) := by unfold attrS; rw [ho, hs]; rfl
        have HN := Lib.hid hn
        have hol := oidWhole_len (nums_ok ho).2.1
        have HO := Lib.hid ho
        clear hn ho hs
        go_wp2_with fail
        refine HRI.out.mono ?_
        rintro e w2 ⟨rfl, rfl⟩
        clear z0 HRI q1 q2 q3 q4
        go_upto_region 4 with fail
        have G : Fr (fun _ => False) w1 w1.drew := (Fr.refl w1).drew
        have B := BZ1.drew
        have hB1 := BZ1.lt
        obtain ⟨T, hT⟩ : ∃ T, T = tagOf 16 := ⟨_, rfl⟩
        have HTG := Lib.hid (show tagGood T from by rw [hT]; exact good_of (n := 16) (by decide) (by decide))
        have HOF := Lib.hid (fun w => r02Of_any 16 w)
        have HWH := Lib.hid (fun (W : World) (hW : Ints W (.slice ax o.length cx) o) => r04Whole_any (.slice ax o.length cx) o W hW HO.out)
        rw [← hT] at HN HOF
        generalize oidWhole o = ow at *
        clear hT
        have GS : w.heap.size ≤ w1.heap.size := HF1.out.size
        go_region_held3 (fun w' => ∀ j, w'.cell? ⟨z, j, none⟩ = (#[.slice ax o.length cx, .slice ay b.length cy] : Array Value)[j]?) (first | exact B.cell) (first
          | (go_at_call 15; refine (HOF.out _).mono ?_; rintro e w' ⟨rfl, F⟩; replace B := B.fr F (fun h => h); replace G := G.trans F; (try replace hv := ownsRow_fr hv F (fun _ _ h => h)))
          | (go_at_call 119; refine (HWH.out _ (HX1.out.old G)).mono ?_; rintro e w' ⟨v, rfl, hv0, F⟩; have hv := own_le hv0 (show w1.heap.size ≤ _ from G.size); obtain ⟨av, mv, cv, rfl, rfl⟩ := own_shape hv; replace B := B.fr F (fun h => h); replace G := G.trans F)
          | (obtain ⟨v7, w7, hrun, ho7, F7, hat⟩ := append_bytes hv ay b.length cy b (HY1.out.old G) (by omega) (show w1.heap.size ≤ _ from G.size); obtain ⟨a7, m7, c7, rfl, rfl⟩ := own_shape ho7; refine step_append_run (by rfl) (.tmp 28) (.tmp 30) 23 (by rfl) _ w7 (by exact hrun) ?_; have hbk := (Vals.of_own hv).2; replace B := B.fr F7 (fun e => by have := (hbk z e).1; omega); replace G := G.trans' F7 (fun i hi e => absurd hi (by have := (hbk i e).1; omega)); have hs7 : w1.heap.size ≤ w7.heap.size := G.size; have hml : (ow ++ b).length ≤ 16777216 := (by rw [List.length_append]; omega); clear hv hrun F7 hat)
          | (go_at_call 14; refine (r02Wrap_any T HTG.out (.slice a7 (ow.length + b.length) c7) (ow ++ b) _ (Vals.of_own ho7).1 hml).mono ?_; rintro e w' ⟨v, rfl, hv9, F⟩; obtain ⟨av, mv, cv, rfl, rfl⟩ := own_shape hv9; replace B := B.fr F (fun h => h); replace G := G.trans F))
        all_goals
          have HO9 := Lib.hid (own_le hv9 (show w.heap.size ≤ w7.heap.size from by omega))
          have HG9 := Lib.hid (HF1.out.trans G)
          clear hv9 ho7 B G F hbk hml
          generalize wrapS T (ow ++ b) = wx at *
          go_wp2_with fail
          refine bodyPost_ret (v := .tuple #[.slice av wx.length cv, .bool true]) (by simp [results, Tryz.results82, go_sem]) rfl ⟨?_, HG9.out⟩
          unfold rWholeOut
          rw [HN.out]
          exact ⟨_, rfl, HO9.out⟩
    · have hs : singleB b = false := by unfold singleB; rw [hr]; simp [h1]
      have q1 : ((ls.length : Int) == 1) = false := beq_eq_false_iff_ne.2 (by omega)
      have q2 : ((ls.length : Int) != 1) = true := by simpa using (by omega : (ls.length : Int) ≠ 1)
      have q3 : (ls.length == 1) = false := beq_eq_false_iff_ne.2 (by omega)
      have q4 : (ls.length != 1) = true := by simpa using h1
      have hn : attrS o b = none := by unfold attrS; rw [hs, Bool.and_false]; rfl
      have HN := Lib.hid hn
      clear hn hr hs h1
      go_wp2_with fail
      refine bodyPost_ret (v := .tuple #[.slice none 0 0, .bool false]) (by simp [results, Tryz.results82, go_sem]) rfl ⟨?_, HF1.out⟩
      unfold rWholeOut
      rw [HN.out]
end Go.Proofs.YtgffhiopbnkjbaaGreatDoor

namespace Go.Proofs.YtgffhiopbnkjbaaGreatDoor
open Go Go.RowKit Go.Q
set_option linter.unusedSimpArgs false

set_option maxRecDepth 20000 in
set_option maxHeartbeats 2000000 in
theorem r14Step_any (v : Value) (l : List Part) (w : World) (h : Attrs w v l) (hf : fewB l) :
    Calls Tryz.prog 42 #[v] w fun e w' => e = .returned (.bool (rdnS l).isSome) ∧ Fr (fun _ => False) w w' := by
  have H := Lib.hid h
  obtain ⟨a, cap, rfl, hc, hm, -⟩ := h
  rcases Classical.em (l.length = 0 ∨ 16 < l.length) with hl | hl
  · have hn : rdnS l = none := by unfold rdnS; rw [if_pos hl]
    have HN := Lib.hid hn
    clear hn
    rcases hl with hl | hl
    · have q1 : (l.length : Int) < 1 := by omega
      go_enter Tryz.func42, Tryz.ntmps42
      go_wp2_with fail
      go_ret
      exact ⟨by rw [HN.out]; rfl, Fr.refl _⟩
    · have q1 : ¬ (l.length : Int) < 1 := by omega
      have q3 : (16 : Int) < (l.length : Int) := by omega
      go_enter Tryz.func42, Tryz.ntmps42
      go_wp2_with fail
      go_ret
      exact ⟨by rw [HN.out]; rfl, Fr.refl _⟩
  · have hn : rdnS l = stepsS none l := by unfold rdnS; rw [if_neg hl]
    have HN := Lib.hid hn
    have q1 : ¬ (l.length : Int) < 1 := by omega
    have q3 : ¬ (16 : Int) < (l.length : Int) := by omega
    clear hn
    go_enter Tryz.func42, Tryz.ntmps42
    go_wp2_with fail
    go_loopg [3, 4] l.length (fun g u i wr => ∃ (j : Nat) (ws : List (List UInt8)), g = l.length - j ∧ j ≤ l.length ∧ i = .int .i64 j ∧ ws.length = j ∧ (∀ y, ws.getLast? = some y → Bytes wr u y) ∧ Fr (fun _ => False) w wr ∧ (stepsS none l = (stepsS ws.getLast? (l.drop j)).map (ws ++ ·)))
    case atStart => first | exact ⟨0, [], rfl, Nat.zero_le _, rfl, rfl, fun y e => by simp at e, Fr.refl _, by simp⟩ | exact ⟨0, [], rfl, Nat.zero_le _, rfl, fun y e => by simp at e, Fr.refl _, by simp⟩
    case round =>
      obtain ⟨j, ws, hg, hj, rfl, hws, hwl, F, hS⟩ := hrel
      have HG := Lib.hid hg
      have HS := Lib.hid hS
      have HF := Lib.hid F
      have HWS := Lib.hid hws
      have HWL := Lib.hid hwl
      clear hg hS hws hwl
      by_cases hjl : j < l.length
      · obtain ⟨a0, cap0, he, _, _, hx⟩ := H.out.old F
        simp only [Value.slice.injEq, true_and] at he
        obtain ⟨rfl, rfl⟩ := he
        obtain ⟨b, off, rfl, hy⟩ := hx (by omega)
        obtain ⟨p, hp⟩ : ∃ p, l[j]? = some p := ⟨_, List.getElem?_eq_getElem hjl⟩
        obtain ⟨x, y, e1, e2, hpx, hpy⟩ := hy j p hp
        have hsp := Lib.hid (stepsS_split l j p hp ws.getLast?)
        have hpb := hf p (List.mem_of_getElem? hp)
        have r1 : (0 : Int) ≤ (j : Int) := by omega
        have r2 : (j : Int) < (l.length : Int) := by omega
        obtain ⟨ax, cx, rfl, -⟩ := Ints.form hpx
        obtain ⟨ay, cy, rfl, -⟩ := Vals.form hpy
        have HW := Lib.hid (r14Whole_any _ _ p.o p.b wr hpx hpy hpb)
        have e1' : wr.cell? ⟨b, off + j * 2, none⟩ = some (.slice ax p.o.length cx) := by rw [Nat.mul_comm]; exact e1
        have e2' : wr.cell? ⟨b, off + j * 2 + 1, none⟩ = some (.slice ay p.b.length cy) := by rw [Nat.mul_comm]; exact e2
        clear hx hy hp hpx hpy F e1 e2
        go_wp2_with fail
        refine HW.out.mono ?_
        rintro e w2 ⟨hout, F2⟩
        have HF2 := Lib.hid (HF.out.trans F2)
        have HWL2 := Lib.hid (fun y h => (HWL.out y h).old F2)
        unfold rWholeOut at hout
        clear e1' e2' HF F2 HW HWL
        cases hq : attrS p.o p.b with
        | none =>
          rw [hq] at hout
          subst hout
          have hn : rdnS l = none := by rw [HN.out, HS.out, hsp.out, hq]; rfl
          have HNN := Lib.hid hn
          clear hn hq
          go_wp2_with fail
          go_ret
          exact ⟨by rw [HNN.out]; rfl, HF2.out⟩
        | some x =>
          rw [hq] at hout
          obtain ⟨v2, rfl, ho2⟩ := hout
          have hb2 := (Vals.of_own ho2).1
          have HB2 := Lib.hid hb2
          obtain ⟨a2, c2, rfl, -⟩ := hb2.form
          have hsp1 := hsp.out
          rw [hq] at hsp1
          have HSP := Lib.hid hsp1
          have hlen : (ws ++ [x]).length = j + 1 := by simp [HWS.out]
          have HLEN := Lib.hid hlen
          clear hb2 ho2 hsp hsp1 hq hlen
          by_cases hj0 : j = 0
          · subst hj0
            have hw0 : ws = [] := List.length_eq_zero_iff.1 HWS.out
            have hnx := steps_next HS.out HSP.out (by rw [hw0]; rfl)
            have HNX := Lib.hid hnx
            clear hnx hw0
            go_wp2_with fail
            go_roundg (l.length - (0 + 1))
            case measure => rw [HG.out]; omega
            case rel => exact ⟨0 + 1, ws ++ [x], rfl, by omega, by go_num, HLEN.out, fun y e => by rw [List.getLast?_concat] at e; cases e; exact HB2.out, HF2.out, HNX.out⟩
          · obtain ⟨k, rfl⟩ : ∃ k, j = k + 1 := ⟨j - 1, by omega⟩
            have hws2 := HWS.out
            obtain ⟨xk, hxk⟩ : ∃ x, ws[k]? = some x := ⟨_, List.getElem?_eq_getElem (by omega)⟩
            have hlast : ws.getLast? = some xk := by rw [List.getLast?_eq_getElem?, hws2]; exact hxk
            have hbk := HWL2.out xk hlast
            have hsp2 := HSP.out
            rw [hlast] at hsp2
            have t2 : (0 : Int) < ((k + 1 : Nat) : Int) := by omega
            have HCM := Lib.hid (r01Compare_any _ _ xk x w2 hbk HB2.out)
            obtain ⟨cm, hcm⟩ : ∃ cm, cm = cmpS xk x := ⟨_, rfl⟩
            have HCC := Lib.hid hcm
            rw [← hcm] at HCM
            have HLA := Lib.hid hlast
            clear hsp2 hxk hlast hcm hbk
            by_cases hge : 0 ≤ cm
            · have hn : rdnS l = none := by
                rw [HN.out, HS.out, HSP.out, HLA.out]
                simp [← HCC.out, hge]
              have HNN := Lib.hid hn
              clear hn
              go_wp2_with fail
              refine HCM.out.mono ?_
              rintro e w3 ⟨rfl, F3⟩
              go_wp2_with fail
              go_ret
              exact ⟨by rw [HNN.out]; rfl, HF2.out.trans F3⟩
            · have hcond : (match ws.getLast? with | some y => decide (0 ≤ cmpS y x) | none => false) = false := by
                rw [HLA.out]
                simp only [← HCC.out]
                exact decide_eq_false hge
              have HNX := Lib.hid (steps_next HS.out HSP.out hcond)
              clear hcond
              go_wp2_with fail
              refine HCM.out.mono ?_
              rintro e w3 ⟨rfl, F3⟩
              go_wp2_with fail
              go_roundg (l.length - (k + 1 + 1))
              case measure => rw [HG.out]; omega
              case rel => exact ⟨k + 1 + 1, ws ++ [x], rfl, by omega, by go_num, HLEN.out, fun y e => by rw [List.getLast?_concat] at e; cases e; exact HB2.out.old F3, HF2.out.trans F3, HNX.out⟩
      · have hd : l.drop j = [] := List.drop_eq_nil_of_le (by omega)
        have hres : rdnS l = some ws := by rw [HN.out, HS.out, hd]; simp [stepsS]
        have HRES := Lib.hid hres
        clear hd hres
        go_wp2_with fail
        go_ret
        exact ⟨by rw [HRES.out]; rfl, F⟩

set_option maxRecDepth 20000 in
set_option maxHeartbeats 2000000 in
theorem r14Right_any (v : Value) (n : List (List Part)) (w : World) (h : NameAt w v n) (hf : ∀ r ∈ n, fewB r) :
    Calls Tryz.prog 20 #[v] w fun e w' => e = .returned (.bool (nameOk n)) ∧ Fr (fun _ => False) w w' := by
  have H := Lib.hid h
  obtain ⟨a, cap, rfl, hc, hm, -⟩ := h
  have hcm : cap ≤ 9223372036854775807 := by unfold maxLen at hm; omega
  have hn : nameOk n = (decide (n.length ≤ 64) && n.all (fun r => (rdnS r).isSome)) := rfl
  have HN := Lib.hid hn
  clear hn
  go_enter Tryz.func20, Tryz.ntmps20
  go_wp2_with fail
  go_loopg [3] n.length (fun g i wr => ∃ j : Nat, g = n.length - j ∧ j ≤ n.length ∧ i = .int .i64 j ∧ (∀ r ∈ n.take j, (rdnS r).isSome = true) ∧ Fr (fun _ => False) w wr)
  case atStart => exact ⟨0, rfl, Nat.zero_le _, rfl, by simp, Fr.refl _⟩
  case round =>
    obtain ⟨j, hg, hj, rfl, he, F⟩ := hrel
    have HG := Lib.hid hg
    have HE := Lib.hid he
    have HF := Lib.hid F
    clear hg he
    by_cases hjl : j < n.length
    · obtain ⟨a0, cap0, he, _, _, hx⟩ := H.out.old F
      simp only [Value.slice.injEq, true_and] at he
      obtain ⟨rfl, rfl⟩ := he
      obtain ⟨b, off, rfl, hy⟩ := hx (by omega)
      obtain ⟨r, hr⟩ : ∃ r, n[j]? = some r := ⟨_, List.getElem?_eq_getElem hjl⟩
      obtain ⟨x, e1, hA⟩ := hy j r hr
      have r1 : (0 : Int) ≤ (j : Int) := by omega
      have r2 : (j : Int) < (n.length : Int) := by omega
      have HW := Lib.hid (r14Step_any x r wr hA (hf r (List.mem_of_getElem? hr)))
      have HR := Lib.hid hr
      clear hx hy hr hA F
      obtain ⟨o, ho⟩ : ∃ o, o = (rdnS r).isSome := ⟨_, rfl⟩
      have HO := Lib.hid ho
      rw [← ho] at HW
      clear ho
      go_wp2_with fail
      refine HW.out.mono ?_
      rintro e w2 ⟨rfl, F2⟩
      have G2 := HF.out.trans F2
      clear HF F2
      cases o with
      | false =>
        have hn : n.all (fun r => (rdnS r).isSome) = false := by
          rw [List.all_eq_false]
          exact ⟨r, List.mem_of_getElem? HR.out, by rw [← HO.out]; simp⟩
        have HNN := Lib.hid hn
        clear hn
        go_wp2_with fail
        go_ret
        exact ⟨by rw [HN.out, HNN.out, Bool.and_false]; rfl, G2⟩
      | true =>
        go_wp2_with fail
        go_roundg (n.length - (j + 1))
        case measure => rw [HG.out]; omega
        case rel =>
          refine ⟨j + 1, rfl, by omega, by go_num, fun s hs => ?_, G2⟩
          rw [List.take_add_one, HR.out] at hs
          rcases List.mem_append.1 hs with h | h
          · exact HE.out s h
          · simp at h
            rw [h, ← HO.out]
    · have hall : n.all (fun r => (rdnS r).isSome) = true := by
        rw [List.all_eq_true]
        have := HE.out
        rwa [List.take_of_length_le (by omega)] at this
      have HNN := Lib.hid hall
      clear hall
      by_cases h64 : n.length ≤ 64
      · have q1 : ¬ (64 : Int) < (n.length : Int) := by omega
        have q2 : (n.length : Int) ≤ 64 := by omega
        have HD := Lib.hid (decide_eq_true h64)
        clear h64
        go_wp2_with fail
        go_ret
        exact ⟨by rw [HN.out, HNN.out, HD.out]; rfl, F⟩
      · have q1 : (64 : Int) < (n.length : Int) := by omega
        have q2 : ¬ (n.length : Int) ≤ 64 := by omega
        have HD := Lib.hid (decide_eq_false h64)
        clear h64
        go_wp2_with fail
        go_ret
        exact ⟨by rw [HN.out, HNN.out, HD.out]; rfl, F⟩
end Go.Proofs.YtgffhiopbnkjbaaGreatDoor

namespace Go.Q
open Go
/-- A number's bytes, as few as may be. -/
def b256 : Nat → Nat → List UInt8
  | 0, _ => []
  | f + 1, n => if n = 0 then [] else b256 f (n / 256) ++ [UInt8.ofNat (n % 256)]
theorem beS_snoc (l : List UInt8) (x : UInt8) : beS (l ++ [x]) = beS l * 256 + x.toNat := by simp [beS, List.foldl_append]
theorem b256_val : ∀ (f n : Nat), n < 256 ^ f → beS (b256 f n) = n
  | 0, n, h => by simp at h; subst h; rfl
  | f + 1, n, h => by
    unfold b256
    split
    · rename_i h0; subst h0; rfl
    · rw [beS_snoc, b256_val f (n / 256) (by rw [Nat.pow_succ] at h; omega), u8 (n % 256) (by omega)]
      omega
theorem b256_len : ∀ (f n : Nat), (b256 f n).length ≤ f
  | 0, _ => by simp [b256]
  | f + 1, n => by
    unfold b256
    split
    · simp
    · have := b256_len f (n / 256)
      rw [List.length_append, List.length_singleton]
      omega
theorem b256_head : ∀ (f n : Nat), n < 256 ^ f → ∀ x, (b256 f n)[0]? = some x → x ≠ 0
  | 0, n, h, x, hx => by simp [b256] at hx
  | f + 1, n, h, x, hx => by
    unfold b256 at hx
    split at hx
    · simp at hx
    · rename_i hn
      by_cases h0 : n / 256 = 0
      · rw [h0] at hx
        have e : b256 f 0 = [] := by cases f <;> simp [b256]
        rw [e] at hx
        simp at hx
        subst hx
        intro e
        have := congrArg UInt8.toNat e
        rw [u8 (n % 256) (by omega)] at this
        simp at this
        omega
      · have hl : 0 < (b256 f (n / 256)).length := by
          rcases Nat.eq_zero_or_pos (b256 f (n / 256)).length with h1 | h1
          · have := b256_val f (n / 256) (by rw [Nat.pow_succ] at h; omega)
            rw [List.length_eq_zero_iff.1 h1] at this
            exact absurd this.symm h0
          · exact h1
        rw [List.getElem?_append_left hl] at hx
        exact b256_head f (n / 256) (by rw [Nat.pow_succ] at h; omega) x hx
/-- Digits to the base 10, the lowest first: their value. -/
def decVal : List Nat → Nat
  | [] => 0
  | x :: t => x + 10 * decVal t
theorem decVal_append : ∀ a b : List Nat, decVal (a ++ b) = decVal a + 10 ^ a.length * decVal b
  | [], b => by simp [decVal]
  | x :: t, b => by
    have ih := decVal_append t b
    simp only [List.cons_append, decVal, ih, List.length_cons, Nat.pow_succ, Nat.mul_add]
    rw [← Nat.mul_assoc, Nat.mul_comm (10 ^ t.length) 10]
    omega
/-- Times 256, and what is carried. -/
def mulGo : Nat → List Nat → List Nat × Nat
  | c, [] => ([], c)
  | c, x :: t => (((256 * x + c) % 10) :: (mulGo ((256 * x + c) / 10) t).1, (mulGo ((256 * x + c) / 10) t).2)
theorem mulGo_snoc : ∀ (c : Nat) (l : List Nat) (x : Nat), mulGo c (l ++ [x]) = ((mulGo c l).1 ++ [(256 * x + (mulGo c l).2) % 10], (256 * x + (mulGo c l).2) / 10)
  | c, [], x => by simp [mulGo]
  | c, y :: t, x => by
    have ih := mulGo_snoc ((256 * y + c) / 10) t x
    simp only [List.cons_append, mulGo, ih]
theorem mulGo_len : ∀ (c : Nat) (l : List Nat), (mulGo c l).1.length = l.length
  | c, [] => rfl
  | c, x :: t => by simp only [mulGo, List.length_cons, mulGo_len]
theorem mulGo_val : ∀ (c : Nat) (l : List Nat), decVal (mulGo c l).1 + 10 ^ l.length * (mulGo c l).2 = 256 * decVal l + c
  | c, [] => by simp [mulGo, decVal]
  | c, x :: t => by
    have ih := mulGo_val ((256 * x + c) / 10) t
    simp only [mulGo, decVal, List.length_cons, Nat.pow_succ]
    rw [show 10 ^ t.length * 10 * (mulGo ((256 * x + c) / 10) t).2 = 10 * (10 ^ t.length * (mulGo ((256 * x + c) / 10) t).2) from by rw [Nat.mul_comm (10 ^ t.length) 10, Nat.mul_assoc]]
    generalize 10 ^ t.length * (mulGo ((256 * x + c) / 10) t).2 = y at *
    omega
theorem mulGo_small : ∀ (c : Nat) (l : List Nat), c ≤ 255 → (∀ x ∈ l, x < 10) → (mulGo c l).2 ≤ 255 ∧ ∀ x ∈ (mulGo c l).1, x < 10
  | c, [], hc, _ => ⟨hc, fun x hx => by cases hx⟩
  | c, x :: t, hc, h => by
    have hx := h x (by simp)
    obtain ⟨h1, h2⟩ := mulGo_small ((256 * x + c) / 10) t (by omega) (fun y hy => h y (by simp [hy]))
    refine ⟨h1, fun y hy => ?_⟩
    simp only [mulGo, List.mem_cons] at hy
    rcases hy with rfl | hy
    · omega
    · exact h2 y hy
/-- What is carried, as digits. -/
def tailD : Nat → Nat → List Nat
  | 0, _ => []
  | f + 1, c => if c = 0 then [] else c % 10 :: tailD f (c / 10)
theorem tail_val (c : Nat) (h : c ≤ 255) : decVal (tailD 3 c) = c := by
  simp only [tailD]
  split
  · simp [decVal]; omega
  · split
    · simp [decVal]; omega
    · split
      · simp [decVal]; omega
      · simp [decVal]; omega
theorem tail_digits : ∀ (f c : Nat), ∀ x ∈ tailD f c, x < 10
  | 0, _, x, hx => by cases hx
  | f + 1, c, x, hx => by
    unfold tailD at hx
    split at hx
    · cases hx
    · rcases List.mem_cons.1 hx with rfl | hx
      · omega
      · exact tail_digits f (c / 10) x hx
theorem tail_len : ∀ (f c : Nat), (tailD f c).length ≤ f
  | 0, _ => by simp [tailD]
  | f + 1, c => by
    unfold tailD
    split
    · simp
    · have := tail_len f (c / 10)
      simp only [List.length_cons]
      omega
theorem tail_last (c : Nat) (h : c ≤ 255) : ∀ x, (tailD 3 c).getLast? = some x → x ≠ 0 := by
  intro x hx
  simp only [tailD] at hx
  split at hx
  · cases hx
  · split at hx
    · simp at hx; omega
    · split at hx
      · simp at hx; omega
      · simp at hx; omega
/-- One byte more. -/
def stepD (d : List Nat) (x : UInt8) : List Nat := (mulGo x.toNat d).1 ++ tailD 3 (mulGo x.toNat d).2
/-- Is it as it must be? -/
def decGood (d : List Nat) : Prop := (∀ x ∈ d, x < 10) ∧ d ≠ [] ∧ (d = [0] ∨ ∀ x, d.getLast? = some x → x ≠ 0)
theorem stepD_good {d : List Nat} (h : decGood d) (x : UInt8) : decGood (stepD d x) ∧ decVal (stepD d x) = 256 * decVal d + x.toNat ∧ (stepD d x).length ≤ d.length + 3 := by
  obtain ⟨h1, h2, h3⟩ := h
  have hx := x.toNat_lt
  obtain ⟨g1, g2⟩ := mulGo_small x.toNat d (by omega) h1
  have hv := mulGo_val x.toNat d
  have hl := mulGo_len x.toNat d
  refine ⟨⟨?_, ?_, ?_⟩, ?_, ?_⟩
  · intro y hy
    rcases List.mem_append.1 hy with hy | hy
    · exact g2 y hy
    · exact tail_digits _ _ y hy
  · intro e
    have := congrArg List.length e
    simp only [stepD, List.length_append, hl, List.length_nil] at this
    have h4 := List.length_pos_iff.2 h2
    omega
  · obtain ⟨t, z, rfl⟩ : ∃ t z, d = t ++ [z] := ⟨d.dropLast, d.getLast h2, (List.dropLast_concat_getLast h2).symm⟩
    by_cases h0 : (mulGo x.toNat (t ++ [z])).2 = 0
    · have e : stepD (t ++ [z]) x = (mulGo x.toNat (t ++ [z])).1 := by unfold stepD; rw [h0]; simp [tailD]
      rw [e]
      rw [mulGo_snoc] at h0 ⊢
      simp only at h0 ⊢
      have hz : z = 0 := by omega
      rcases h3 with h3 | h3
      · have ht : t = [] := by
          have := congrArg List.length h3
          simp at this
          exact this
        subst ht
        subst hz
        simp only [mulGo, List.nil_append] at h0 ⊢
        by_cases hx0 : x.toNat = 0
        · exact .inl (by simp [hx0])
        · exact .inr (fun y hy => by simp at hy; omega)
      · exact absurd hz (h3 z (by simp))
    · refine .inr (fun y hy => ?_)
      unfold stepD at hy
      have hne : tailD 3 (mulGo x.toNat (t ++ [z])).2 ≠ [] := by
        simp only [tailD, if_neg h0]
        exact List.cons_ne_nil _ _
      rw [List.getLast?_append] at hy
      cases hq : (tailD 3 (mulGo x.toNat (t ++ [z])).2).getLast? with
      | none => exact absurd (List.getLast?_eq_none_iff.1 hq) hne
      | some q =>
        rw [hq] at hy
        simp only [Option.some_or, Option.some.injEq] at hy
        subst hy
        exact tail_last _ g1 _ hq
  · unfold stepD
    rw [decVal_append, tail_val _ g1, hl]
    exact hv
  · unfold stepD
    rw [List.length_append, hl]
    have := tail_len 3 (mulGo x.toNat d).2
    omega
/-- A number's digits. -/
def digsS (b : List UInt8) : List Nat := b.foldl stepD [0]
theorem digs_good (b : List UInt8) : decGood (digsS b) ∧ decVal (digsS b) = beS b ∧ (digsS b).length ≤ 1 + 3 * b.length := by
  induction hn : b.length generalizing b with
  | zero =>
    obtain rfl := List.length_eq_zero_iff.1 hn
    exact ⟨⟨by simp [digsS], by simp [digsS], .inl rfl⟩, rfl, by simp [digsS]⟩
  | succ n ih =>
    have hne : b ≠ [] := fun e => by simp [e] at hn
    obtain ⟨t, x, rfl⟩ : ∃ t x, b = t ++ [x] := ⟨b.dropLast, b.getLast hne, (List.dropLast_concat_getLast hne).symm⟩
    obtain ⟨h1, h2, h3⟩ := ih t (by simpa using hn)
    have e : digsS (t ++ [x]) = stepD (digsS t) x := by simp [digsS, List.foldl_append]
    rw [e]
    obtain ⟨g1, g2, g3⟩ := stepD_good h1 x
    refine ⟨g1, by rw [g2, h2, beS_snoc]; omega, by simp at hn; omega⟩
theorem digsS_take {b : List UInt8} {j : Nat} {x : UInt8} (h : b[j]? = some x) : digsS (b.take (j + 1)) = stepD (digsS (b.take j)) x := by
  unfold digsS
  rw [List.take_add_one, h]
  simp [List.foldl_append]
/-- As text. -/
def decText (d : List Nat) : List UInt8 := d.reverse.map fun x => UInt8.ofNat (48 + x)
theorem dec_small {n : Nat} (h : n < 10) : Lib.decDigits n = [UInt8.ofNat (48 + n)] := by rw [Lib.decDigits, dif_pos h]
theorem dec_big {n : Nat} (h : ¬ n < 10) : Lib.decDigits n = Lib.decDigits (n / 10) ++ [UInt8.ofNat (48 + n % 10)] := by rw [Lib.decDigits, dif_neg h]
theorem decText_val : ∀ d : List Nat, decGood d → decText d = Lib.decDigits (decVal d)
  | [], h => absurd rfl h.2.1
  | [x], h => by
    have hx := h.1 x (by simp)
    have e : decVal [x] = x := by simp [decVal]
    rw [e, dec_small hx]
    rfl
  | x :: y :: t, h => by
    have hx := h.1 x (by simp)
    have hl : ∀ z, (x :: y :: t).getLast? = some z → z ≠ 0 := by
      rcases h.2.2 with h3 | h3
      · cases h3
      · exact h3
    have hg : decGood (y :: t) := ⟨fun z hz => h.1 z (by simp [List.mem_cons.1 hz]), by simp, .inr (fun z hz => hl z (by rw [List.getLast?_cons_cons]; exact hz))⟩
    have ih := decText_val (y :: t) hg
    have hpos : decVal (y :: t) ≠ 0 := by
      have : ∀ l : List Nat, l ≠ [] → (∀ z, l.getLast? = some z → z ≠ 0) → decVal l ≠ 0 := by
        intro l
        induction l with
        | nil => intro h; exact absurd rfl h
        | cons a s ih =>
          intro _ h
          cases s with
          | nil => simp only [decVal]; have := h a rfl; omega
          | cons b r =>
            have := ih (by simp) (fun z hz => h z (by rw [List.getLast?_cons_cons]; exact hz))
            simp only [decVal] at this ⊢
            omega
      exact this _ (by simp) (fun z hz => hl z (by rw [List.getLast?_cons_cons]; exact hz))
    have e1 : decText (x :: y :: t) = decText (y :: t) ++ [UInt8.ofNat (48 + x)] := by simp [decText]
    have e2 : decVal (x :: y :: t) = x + 10 * decVal (y :: t) := rfl
    rw [e1, ih, e2]
    generalize decVal (y :: t) = v at *
    rw [dec_big (n := x + 10 * v) (by omega), show (x + 10 * v) / 10 = v from by omega, show (x + 10 * v) % 10 = x from by omega]
/-- A number's text by way of its bytes. -/
theorem num_text {n : Int} (h0 : 0 ≤ n) (h1 : n ≤ 4294967295) : decText (digsS (b256 8 n.toNat)) = Lib.itoa n := by
  obtain ⟨g1, g2, -⟩ := digs_good (b256 8 n.toNat)
  rw [decText_val _ g1, g2, b256_val 8 n.toNat (Nat.lt_of_le_of_lt (by omega : n.toNat ≤ 4294967295) (by decide))]
  unfold Lib.itoa
  rw [if_neg (by omega)]
end Go.Q

namespace Go.Q
open Go Go.RowKit
theorem b256_snoc {f n : Nat} (h : n ≠ 0) : b256 (f + 1) n = b256 f (n / 256) ++ [UInt8.ofNat (n % 256)] := by rw [b256, if_neg h]
theorem b256_zero (f : Nat) : b256 f 0 = [] := by cases f <;> simp [b256]
end Go.Q
namespace Go.Proofs.YtgffhiopbnkjbaaGreatDoor
open Go Go.RowKit Go.Q
set_option linter.unusedSimpArgs false

set_option maxRecDepth 20000 in
set_option maxHeartbeats 2000000 in
theorem r03Of_any (n : Nat) (hn : n ≤ 2147483647) (w : World) :
    Calls Tryz.prog 161 #[.int .i64 n] w fun e w' => ∃ v, e = .returned (.agg #[.bool false, v]) ∧ Bytes w' v (b256 8 n) ∧ Fr (fun _ => False) w w' := by
  obtain ⟨z, hz⟩ : ∃ z, z = w.heap.size := ⟨_, rfl⟩
  have BZ := Blk.new w 233 #[.bool false, .slice none 0 0]
  have F0 : Fr (fun _ => False) w (w.alloc (.cells #[.bool false, .slice none 0 0] 233)) := (Fr.refl w).alloc _
  rw [← hz] at BZ
  have hzw : ∀ k, k < w.heap.size → k = z → False := fun k hk e => by omega
  have HZ := Lib.hid hz
  have HF0 := Lib.hid F0
  have HZW := Lib.hid hzw
  have q0 : ¬ (n : Int) < 0 := by omega
  clear hz F0 hzw
  go_enter Tryz.func161, Tryz.ntmps161
  go_upto_region 1 with fail
  rw [← HZ.out]
  generalize (w.alloc (.cells #[.bool false, .slice none 0 0] 233)) = w0 at *
  have HBZ := Lib.hid BZ
  clear BZ
  go_wp2_with fail
  go_loopg [0, 3] n (fun g k s wr => ∃ (m f : Nat) (l : List UInt8) (a : Option Addr) (c : Nat), g = m ∧ k = .int .i64 m ∧ m ≤ n ∧ l.length + f = 8 ∧ m < 256 ^ f ∧ s = .slice a l.length c ∧ wr.ownsRow w0.heap.size 5 1 (.slice a l.length c) l.length (Lib.byteCells l) ∧ b256 8 n = b256 f m ++ l ∧ Fr (fun _ => False) w0 wr)
  case atStart => exact ⟨n, 8, [], none, 0, rfl, rfl, Nat.le_refl _, rfl, Nat.lt_of_le_of_lt hn (by decide), rfl, ⟨rfl, .inl ⟨rfl, rfl⟩⟩, by simp, Fr.refl _⟩
  case round =>
    obtain ⟨m, f, l, a, c, hg, rfl, hmn, hlf, hmf, rfl, hB, hN, F⟩ := hrel
    have HG := Lib.hid hg
    have HN := Lib.hid hN
    have HB := Lib.hid hB
    have HF := Lib.hid F
    have HMF := Lib.hid hmf
    clear hg hN hB hmf
    by_cases h0 : m = 0
    · subst h0
      have hres : b256 8 n = l := by rw [HN.out, b256_zero]; rfl
      have HR := Lib.hid hres
      have BZ := HBZ.out.fr F (fun h => h)
      have SZ := BZ.cell
      have ZZ := BZ.frozen
      clear hres F
      go_wp2_with fail
      obtain ⟨B5, F5⟩ := set2 BZ (.bool false) (.slice a l.length c)
      generalize ((wr.setCell ⟨z, 0, none⟩ (.bool false)).setCell ⟨z, 1, none⟩ (.slice a l.length c)) = w5 at *
      have n0 := B5.cell 0
      have n1 := B5.cell 1
      simp at n0 n1
      refine bodyPost_ret (v := .agg #[.bool false, .slice a l.length c]) (by simp [results, Tryz.results161, go_sem, n0, n1]) rfl ?_
      refine ⟨_, rfl, ?_, (HF0.out.trans HF.out).trans' F5 HZW.out⟩
      rw [HR.out]
      exact (Vals.of_own HB.out).1.fr F5 (fun _ k hk e => by have := ((Vals.of_own HB.out).2 k hk).1; have := HBZ.out.lt; omega)
    · have q1 : ((m : Int) == 0) = false := beq_eq_false_iff_ne.2 (by omega)
      have q1b : ((m : Int) != 0) = true := by simp; omega
      obtain ⟨r, hr⟩ : ∃ r, r = m % 256 := ⟨_, rfl⟩
      have hrl : r < 256 := by omega
      have hri : (m : Int) % 256 = (r : Int) := by omega
      have q2 : ¬ (r : Int) < 0 := by omega
      have hw8 : IntKind.u8.wrap (r : Int) = (r : Int) := by simp [IntKind.wrap, IntKind.signed, IntKind.bits]; omega
      obtain ⟨f, rfl⟩ : ∃ f', f = f' + 1 := by
        cases f with
        | zero => have := HMF.out; simp at this; omega
        | succ f => exact ⟨f, rfl⟩
      have hnx : b256 8 n = b256 f (m / 256) ++ (UInt8.ofNat r :: l) := by rw [HN.out, b256_snoc h0, hr]; simp
      have hmf2 : m / 256 < 256 ^ f := by have := HMF.out; rw [Nat.pow_succ] at this; omega
      have HNX := Lib.hid hnx
      have HMF2 := Lib.hid hmf2
      have hmi : (m : Int) / 256 = ((m / 256 : Nat) : Int) := by omega
      obtain ⟨m2, hm2⟩ : ∃ m2, m2 = m / 256 := ⟨_, rfl⟩
      rw [← hm2] at HNX HMF2 hmi
      have hm2l : m2 < m := by omega
      have BX := Blk.new wr 5 #[.int .u8 r]
      have F3 : Fr (fun _ => False) wr (wr.alloc (.cells #[.int .u8 r] 5)) := (Fr.refl wr).alloc _
      have ho1 : (wr.alloc (.cells #[.int .u8 r] 5)).ownsRow wr.heap.size 5 1 (.slice (some ⟨wr.heap.size, 0, none⟩) 1 1) 1 (Lib.byteCells [UInt8.ofNat r]) := by
        have e8 := Go.Q.u8 r (by omega)
        have BX' : Blk (wr.alloc (.cells #[.int .u8 r] 5)) wr.heap.size 5 (Lib.byteCells [UInt8.ofNat r]).toArray := by
          simpa [Lib.byteCells, e8] using BX
        exact own_bytes BX' (by simp) wr.heap.size (Nat.le_refl _)
      obtain ⟨v4, w4, hr4, ho4, F4, _⟩ := append_bytes ho1 a l.length c l ((Vals.of_own HB.out).1.old F3) (by omega) F3.size
      obtain ⟨a4, m4, c4, rfl, rfl⟩ := own_shape ho4
      have hs := F.size
      have HF4 := Lib.hid ((HF.out.trans F3).trans' F4 (fun i hi e => by have := ((Vals.of_own ho1).2 i e).1; omega))
      have e4 : 1 + l.length = (UInt8.ofNat r :: l).length := by simp; omega
      have ho5 := own_le ho4 hs
      rw [e4] at ho5 hr4
      have HO5 := Lib.hid ho5
      have HRUN := Lib.hid hr4
      clear hr hnx hmf2 hm2 BX F3 ho1 hr4 ho4 F4 ho5 F hs HN HMF
      go_wp2_with (at_builtin; refine wpList_append_run (by rfl) (.tmp 18) (.tmp 19) 23 (by rfl) _ w4 (by exact HRUN.out) ?_)
      go_roundg m2
      case measure => rw [HG.out]; omega
      case rel => exact ⟨m2, f, UInt8.ofNat r :: l, a4, c4, rfl, by go_num, by omega, by simp; omega, HMF2.out, rfl, HO5.out, HNX.out, HF4.out⟩

set_option maxRecDepth 20000 in
set_option maxHeartbeats 2000000 in
theorem r03Made_any (v : Value) (l : List UInt8) (w : World) (h : Bytes w v l) (hh : ∀ x, l[0]? = some x → x ≠ 0) (hl : l.length ≤ 1000000) :
    Calls Tryz.prog 206 #[.agg #[.bool false, v]] w fun e w' => ∃ u, e = .returned (.agg #[.bool false, u]) ∧ Bytes w' u l ∧ (∀ k, u.ownBlock = some k → w.heap.size < k) ∧ Fr (fun _ => False) w w' := by
  obtain ⟨a, cap, rfl, hcap, hcm, hx⟩ := h.form
  obtain ⟨z, hz⟩ : ∃ z, z = w.heap.size := ⟨_, rfl⟩
  have BZ := (Blk.new w 233 #[.bool false, .slice a l.length cap]).alloc (.cells #[.bool false, .slice none 0 0] 233)
  have BR := Blk.new (w.alloc (.cells #[.bool false, .slice a l.length cap] 233)) 233 #[.bool false, .slice none 0 0]
  have F0 : Fr (fun _ => False) w ((w.alloc (.cells #[.bool false, .slice a l.length cap] 233)).alloc (.cells #[.bool false, .slice none 0 0] 233)) := ((Fr.refl w).alloc _).alloc _
  rw [World.size_alloc] at BR
  rw [← hz] at BZ BR
  have hzw : ∀ k, k < w.heap.size → k = z + 1 → False := fun k hk e => by omega
  have HZW := Lib.hid hzw
  have HX := Lib.hid hx
  have HF0 := Lib.hid F0
  have HB := Lib.hid (h.old F0)
  unfold maxLen at hcm
  have HZ := Lib.hid hz
  have q1 : (0 : Int) ≤ (l.length : Int) := by omega
  have q2 : (l.length : Int) ≤ (cap : Int) := by omega
  clear h hx hz F0 hzw
  go_enter Tryz.func206, Tryz.ntmps206
  go_upto_region 1 with fail
  rw [← HZ.out]
  generalize ((w.alloc (.cells #[.bool false, .slice a l.length cap] 233)).alloc (.cells #[.bool false, .slice none 0 0] 233)) = w0 at *
  have SZ := BZ.cell
  have SR := BR.cell
  have ZR := BR.frozen
  go_wp2_with fail
  go_loopg [3] 1 (fun g k wr => g = 1 ∧ k = .int .i64 0 ∧ wr = w0)
  case atStart => exact ⟨rfl, rfl, rfl⟩
  case round =>
    obtain ⟨-, rfl, rfl⟩ := hrel
    have hlz := BR.lt
    have SA := (BZ.alloc (.cells #[] 5)).cell
    have ho0 := own_block (Blk.new wr 5 #[]) 0 (Nat.le_refl _) (Nat.zero_le _) wr.heap.size (Nat.le_refl _)
    have F3 : Fr (fun _ => False) wr (wr.alloc (.cells #[] 5)) := (Fr.refl wr).alloc _
    obtain ⟨v4, w4, hr4, ho4, F4, _⟩ := append_bytes (xs := []) ho0 a l.length cap l (HB.out.old F3) (by omega) F3.size
    obtain ⟨a4, m4, c4, rfl, rfl⟩ := own_shape ho4
    rw [Nat.zero_add] at hr4 ho4
    simp only [List.nil_append] at ho4
    have F4' := F3.trans' F4 (fun i hi e => by have := ((Vals.of_own ho0).2 i e).1; omega)
    have HBZ4 := Lib.hid (BZ.fr F4' (fun h => h))
    have HBR4 := Lib.hid (BR.fr F4' (fun h => h))
    have HF4 := Lib.hid (HF0.out.trans F4')
    have HOB := Lib.hid (show ∀ k, (Value.slice a4 l.length c4).ownBlock = some k → z + 1 < k ∧ k < w4.heap.size from fun k hk => by have := (Vals.of_own ho4).2 k hk; omega)
    have HO4 := Lib.hid (Vals.of_own ho4).1
    have HRUN := Lib.hid hr4
    clear hr4 ho4 F4 F4' F3 ho0 BZ BR SR ZR
    rcases Nat.eq_zero_or_pos l.length with h0 | h0
    · obtain rfl : l = [] := List.length_eq_zero_iff.1 h0
      simp only [List.length_nil] at *
      go_upto_region 5 with (at_builtin; refine wpList_append_run (by rfl) (.tmp 20) (.tmp 24) 23 (by rfl) _ w4 (by exact HRUN.out) ?_)
      obtain ⟨d, hd⟩ : ∃ d, d = w4.heap.size := ⟨_, rfl⟩
      have BD := Blk.new w4 233 #[.bool false, .slice a4 0 c4]
      have F5 : Fr (fun _ => False) w4 (w4.alloc (.cells #[.bool false, .slice a4 0 c4] 233)) := (Fr.refl w4).alloc _
      have BZ5 := HBZ4.out.fr F5 (fun h => h)
      have BR5 := HBR4.out.fr F5 (fun h => h)
      have hrl := HBR4.out.lt
      have HF5 := Lib.hid (HF4.out.trans F5)
      have HO5 := Lib.hid (HO4.out.old F5)
      rw [← hd] at BD ⊢
      have hdz : d ≠ z + 1 := by omega
      have HDL := Lib.hid (show w4.heap.size ≤ d by omega)
      have HDW := Lib.hid (show ∀ k, k < w.heap.size → k = d → False from fun k hk e => by have := HF4.out.size; omega)
      clear F5 HF4 HO4 hrl hd
      generalize (w4.alloc (.cells #[.bool false, .slice a4 0 c4] 233)) = w5 at *
      have s0 := BZ5.cell 0
      simp at s0
      have SD := BD.cell
      have ZD := BD.frozen
      go_upto_region 6 with fail
      have BD6 := BD.set 0 (.bool false)
      simp at BD6
      have F6 : Fr (fun q => q = d) w5 (w5.setCell ⟨d, 0, none⟩ (.bool false)) := Fr.setCell (S := fun q => q = d) (p := ⟨d, 0, none⟩) (Fr.refl w5) (fun _ => rfl) _
      have BR6 := BR5.fr F6 (fun e => hdz e.symm)
      have HO6 := Lib.hid (HO5.out.fr F6 (fun h0 k hk e => by have := HOB.out k hk; have := HDL.out; omega))
      have HF6 := Lib.hid (HF5.out.trans' F6 HDW.out)
      clear s0 SD ZD F6 BR5 BZ5 BD
      generalize (w5.setCell ⟨d, 0, none⟩ (.bool false)) = w6 at *
      have SD := BD6.cell
      have SR := BR6.cell
      have ZR := BR6.frozen
      go_wp2_with fail
      obtain ⟨B7, F7⟩ := set2 BR6 (.bool false) (.slice a4 0 c4)
      generalize ((w6.setCell ⟨z + 1, 0, none⟩ (.bool false)).setCell ⟨z + 1, 1, none⟩ (.slice a4 0 c4)) = w7 at *
      have n0 := B7.cell 0
      have n1 := B7.cell 1
      simp at n0 n1
      refine bodyPost_ret (v := .agg #[.bool false, .slice a4 0 c4]) (by simp [results, Tryz.results206, go_sem, n0, n1]) rfl ?_
      exact ⟨_, rfl, HO6.out.fr F7 (fun h0 k hk e => by have := HOB.out k hk; omega), fun k hk => by have := HOB.out k hk; have := HZ.out; omega, HF6.out.trans' F7 HZW.out⟩
    · obtain ⟨b, o, rfl, hy⟩ := HX.out h0
      obtain ⟨x, hxx⟩ : ∃ x, l[0]? = some x := ⟨_, List.getElem?_eq_getElem h0⟩
      have e1 := HF0.out.cell (hy 0 x hxx) (fun h => h)
      have hx0 := hh x hxx
      have hx1 : ((x.toNat : Int) == 0) = false := beq_eq_false_iff_ne.2 (fun e => hx0 (UInt8.toNat_inj.1 (by simpa using e)))
      generalize x.toNat = y at *
      simp only [Nat.add_zero] at e1
      have q3 : (0 : Int) < (l.length : Int) := by omega
      clear hy hxx hx0
      go_upto_region 5 with (at_builtin; refine wpList_append_run (by rfl) (.tmp 20) (.tmp 24) 23 (by rfl) _ w4 (by exact HRUN.out) ?_)
      obtain ⟨d, hd⟩ : ∃ d, d = w4.heap.size := ⟨_, rfl⟩
      have BD := Blk.new w4 233 #[.bool false, .slice a4 l.length c4]
      have F5 : Fr (fun _ => False) w4 (w4.alloc (.cells #[.bool false, .slice a4 l.length c4] 233)) := (Fr.refl w4).alloc _
      have BZ5 := HBZ4.out.fr F5 (fun h => h)
      have BR5 := HBR4.out.fr F5 (fun h => h)
      have hrl := HBR4.out.lt
      have HF5 := Lib.hid (HF4.out.trans F5)
      have HO5 := Lib.hid (HO4.out.old F5)
      rw [← hd] at BD ⊢
      have hdz : d ≠ z + 1 := by omega
      have HDL := Lib.hid (show w4.heap.size ≤ d by omega)
      have HDW := Lib.hid (show ∀ k, k < w.heap.size → k = d → False from fun k hk e => by have := HF4.out.size; omega)
      clear F5 HF4 HO4 hrl hd
      generalize (w4.alloc (.cells #[.bool false, .slice a4 l.length c4] 233)) = w5 at *
      have s0 := BZ5.cell 0
      simp at s0
      have SD := BD.cell
      have ZD := BD.frozen
      go_upto_region 6 with fail
      have BD6 := BD.set 0 (.bool false)
      simp at BD6
      have F6 : Fr (fun q => q = d) w5 (w5.setCell ⟨d, 0, none⟩ (.bool false)) := Fr.setCell (S := fun q => q = d) (p := ⟨d, 0, none⟩) (Fr.refl w5) (fun _ => rfl) _
      have BR6 := BR5.fr F6 (fun e => hdz e.symm)
      have HO6 := Lib.hid (HO5.out.fr F6 (fun h0 k hk e => by have := HOB.out k hk; have := HDL.out; omega))
      have HF6 := Lib.hid (HF5.out.trans' F6 HDW.out)
      clear s0 SD ZD F6 BR5 BZ5 BD
      generalize (w5.setCell ⟨d, 0, none⟩ (.bool false)) = w6 at *
      have SD := BD6.cell
      have SR := BR6.cell
      have ZR := BR6.frozen
      go_wp2_with fail
      obtain ⟨B7, F7⟩ := set2 BR6 (.bool false) (.slice a4 l.length c4)
      generalize ((w6.setCell ⟨z + 1, 0, none⟩ (.bool false)).setCell ⟨z + 1, 1, none⟩ (.slice a4 l.length c4)) = w7 at *
      have n0 := B7.cell 0
      have n1 := B7.cell 1
      simp at n0 n1
      refine bodyPost_ret (v := .agg #[.bool false, .slice a4 l.length c4]) (by simp [results, Tryz.results206, go_sem, n0, n1]) rfl ?_
      exact ⟨_, rfl, HO6.out.fr F7 (fun h0 k hk e => by have := HOB.out k hk; omega), fun k hk => by have := HOB.out k hk; have := HZ.out; omega, HF6.out.trans' F7 HZW.out⟩

end Go.Proofs.YtgffhiopbnkjbaaGreatDoor

namespace Go.Q
open Go Go.RowKit
theorem mulGo_take {c : Nat} {d : List Nat} {j x : Nat} (h : d[j]? = some x) : mulGo c (d.take (j + 1)) = ((mulGo c (d.take j)).1 ++ [(256 * x + (mulGo c (d.take j)).2) % 10], (256 * x + (mulGo c (d.take j)).2) / 10) := by
  rw [List.take_add_one, h]
  exact mulGo_snoc c (d.take j) x
/-- The row on its way: what is done, and what is still to be done. -/
def mulRow (c : Nat) (d : List Nat) (j : Nat) : List Nat := (mulGo c (d.take j)).1 ++ d.drop j
theorem mulRow_len (c : Nat) (d : List Nat) (j : Nat) (h : j ≤ d.length) : (mulRow c d j).length = d.length := by
  unfold mulRow
  rw [List.length_append, mulGo_len, List.length_take, List.length_drop]
  omega
theorem mulRow_get {c : Nat} {d : List Nat} {j x : Nat} (h : d[j]? = some x) : (mulRow c d j)[j]? = some x := by
  have hj := (List.getElem?_eq_some_iff.1 h).1
  have hl : (mulGo c (d.take j)).1.length = j := by rw [mulGo_len, List.length_take]; omega
  unfold mulRow
  rw [List.getElem?_append_right (by omega), hl, Nat.sub_self, List.getElem?_drop]
  exact h
theorem mulRow_set {c : Nat} {d : List Nat} {j x : Nat} (h : d[j]? = some x) : (mulRow c d j).set j ((256 * x + (mulGo c (d.take j)).2) % 10) = mulRow c d (j + 1) := by
  have hj := (List.getElem?_eq_some_iff.1 h).1
  have hl : (mulGo c (d.take j)).1.length = j := by rw [mulGo_len, List.length_take]; omega
  have hd : d.drop j = x :: d.drop (j + 1) := by
    obtain ⟨h1, rfl⟩ := List.getElem?_eq_some_iff.1 h
    exact List.drop_eq_getElem_cons h1
  unfold mulRow
  rw [mulGo_take h, List.set_append_right _ _ (by omega), hl, Nat.sub_self, hd]
  simp
theorem mulRow_all (c : Nat) (d : List Nat) : mulRow c d d.length = (mulGo c d).1 := by
  unfold mulRow
  rw [List.take_length, List.drop_length, List.append_nil]
end Go.Q
namespace Go.Proofs.YtgffhiopbnkjbaaGreatDoor
open Go Go.RowKit Go.Q
set_option linter.unusedSimpArgs false

set_option maxRecDepth 20000 in
set_option maxHeartbeats 4000000 in
theorem r03Text_any (v : Value) (l : List UInt8) (w : World) (h : Bytes w v l) (hh : ∀ x, l[0]? = some x → x ≠ 0) (hl : l.length ≤ 8) :
    Calls Tryz.prog 160 #[.agg #[.bool false, v]] w fun e w' => e = .returned (str (decText (digsS l))) ∧ Fr (fun _ => False) w w' := by
  obtain ⟨a, cap, rfl, -⟩ := h.form
  obtain ⟨z, hz⟩ : ∃ z, z = w.heap.size := ⟨_, rfl⟩
  have BZ := Blk.new w 233 #[.bool false, .slice a l.length cap]
  have F0 : Fr (fun _ => False) w (w.alloc (.cells #[.bool false, .slice a l.length cap] 233)) := (Fr.refl w).alloc _
  rw [← hz] at BZ
  have hzw : ∀ k, k < w.heap.size → k = z → False := fun k hk e => by omega
  have HZW := Lib.hid hzw
  have HM := Lib.hid (r03Made_any _ l _ (h.old F0) hh (by omega))
  have HF0 := Lib.hid F0
  have HZ := Lib.hid hz
  clear h hz F0 hzw
  go_enter Tryz.func160, Tryz.ntmps160
  go_upto_region 1 with fail
  rw [← HZ.out]
  generalize (w.alloc (.cells #[.bool false, .slice a l.length cap] 233)) = w0 at *
  have SZ := BZ.cell
  go_wp2_with fail
  refine HM.out.mono ?_
  rintro e w1 ⟨u, rfl, hu, hub, F1⟩
  obtain ⟨au, cu, rfl, -⟩ := hu.form
  have BZ1 := BZ.fr F1 (fun h => h)
  have HB1 := Lib.hid hu
  have HF1 := Lib.hid (HF0.out.trans F1)
  have SZ := BZ1.cell
  have ZZ := BZ1.frozen
  have hs0 := BZ.lt
  obtain ⟨BZ2, F2⟩ := set2 BZ1 (.bool false) (.slice au l.length cu)
  have HB2 := Lib.hid (hu.fr F2 (fun _ k hk e => by have := hub k hk; omega))
  have HF2 := Lib.hid (HF1.out.trans' F2 HZW.out)
  clear hu F1 HM hub hs0 F2 HB1 HF1
  go_upto_region 2 with fail
  generalize ((w1.setCell ⟨z, 0, none⟩ (.bool false)).setCell ⟨z, 1, none⟩ (.slice au l.length cu)) = w2 at *
  clear SZ ZZ BZ1
  have B0 := Blk.new w2 3 #[.int .i64 0]
  have F3 : Fr (fun _ => False) w2 (w2.alloc (.cells #[.int .i64 0] 3)) := (Fr.refl w2).alloc _
  have ho0 : (w2.alloc (.cells #[.int .i64 0] 3)).ownsRow w2.heap.size 3 1 (.slice (some ⟨w2.heap.size, 0, none⟩) 1 1) 1 (intCells (natInts [0])) := own_block B0 1 (by simp) (by unfold maxLen; simp) w2.heap.size (Nat.le_refl _)
  have HO0 := Lib.hid ho0
  have HF3 := Lib.hid F3
  have HBZ := Lib.hid BZ2
  obtain ⟨base, hbase⟩ : ∃ b, b = w2.heap.size := ⟨_, rfl⟩
  rw [← hbase] at HO0
  have hbz : z < base := by have := BZ2.lt; omega
  have HBASE := Lib.hid hbase
  clear B0 F3 ho0 BZ2
  go_upto_region 4 with fail
  rw [← HBASE.out]
  generalize (w2.alloc (.cells #[.int .i64 0] 3)) = w3 at *
  clear hbase
  go_loopg [3, 4] l.length (fun g dd i wr => ∃ (j : Nat) (D : List Nat) (a1 : Option Addr) (c1 : Nat), g = l.length - j ∧ j ≤ l.length ∧ i = .int .i64 j ∧ dd = .slice a1 D.length c1 ∧ D = digsS (l.take j) ∧ wr.ownsRow base 3 1 (.slice a1 D.length c1) D.length (intCells (natInts D)) ∧ Fr (fun _ => False) w2 wr)
  case atStart => exact ⟨0, [0], some ⟨base, 0, none⟩, 1, rfl, Nat.zero_le _, rfl, rfl, rfl, HO0.out, HF3.out⟩
  case round =>
    obtain ⟨j, D, a1, c1, hg, hj, rfl, rfl, hD, hO1, F4⟩ := hrel
    have HG := Lib.hid hg
    have HD := Lib.hid hD
    have HO1 := Lib.hid hO1
    have HF4 := Lib.hid F4
    have hgood := digs_good (l.take j)
    rw [← hD] at hgood
    obtain ⟨hg1, hg2, hg3⟩ := hgood
    have hDl : D.length ≤ 25 := by rw [List.length_take] at hg3; omega
    have HGD := Lib.hid hg1
    have BZ4 := HBZ.out.fr F4 (fun h => h)
    have s1 := BZ4.cell 1
    simp at s1
    clear hg hD hO1 hg1 hg2 hg3
    by_cases hjl : j < l.length
    · obtain ⟨x, hxj⟩ : ∃ x, l[j]? = some x := ⟨_, List.getElem?_eq_getElem hjl⟩
      obtain ⟨b, o, rfl, hy⟩ : ∃ b o, au = some ⟨b, o, none⟩ ∧ ∀ i x, l[i]? = some x → w2.cell? ⟨b, o + i, none⟩ = some (.int .u8 x.toNat) := by
        obtain ⟨a0, c0, he, -, -, hy⟩ := HB2.out.form
        simp only [Value.slice.injEq] at he
        obtain ⟨rfl, -, -⟩ := he
        exact hy (by omega)
      have e1 := F4.cell (hy j x hxj) (fun h => h)
      have HDN := Lib.hid (digsS_take hxj)
      have hx256 := x.toNat_lt
      obtain ⟨y, hyx⟩ : ∃ y, y = x.toNat := ⟨_, rfl⟩
      have HYX := Lib.hid hyx
      rw [← hyx] at e1 hx256
      have hy256 : y ≤ 255 := by omega
      have q1 : (0 : Int) ≤ (j : Int) := by omega
      have q2 : (j : Int) < (l.length : Int) := by omega
      clear hy hyx hxj hx256 F4 BZ4
      go_upto_region 8 with fail
      clear s1 e1
      go_loopg [5, 6] D.length (fun g c k wi => ∃ (j2 : Nat), g = D.length - j2 ∧ j2 ≤ D.length ∧ c = .int .i64 (mulGo y (D.take j2)).2 ∧ k = .int .i64 j2 ∧ wi.ownsRow base 3 1 (.slice a1 D.length c1) D.length (intCells (natInts (mulRow y D j2))) ∧ Fr (fun _ => False) w2 wi)
      case atStart => exact ⟨0, rfl, Nat.zero_le _, rfl, rfl, HO1.out, HF4.out⟩
      case round =>
        obtain ⟨j2, hg, hj2, rfl, rfl, hO2, F5⟩ := hrel
        have HG2 := Lib.hid hg
        have HF5 := Lib.hid F5
        have hcs := (mulGo_small y (D.take j2) hy256 (fun t ht => HGD.out.1 t (List.mem_of_mem_take ht))).1
        obtain ⟨cc, hcc⟩ : ∃ cc, cc = (mulGo y (D.take j2)).2 := ⟨_, rfl⟩
        have HCC := Lib.hid hcc
        rw [← hcc] at hcs ⊢
        clear hg hcc
        by_cases hjl2 : j2 < D.length
        · obtain ⟨t, ht⟩ : ∃ t, D[j2]? = some t := ⟨_, List.getElem?_eq_getElem hjl2⟩
          have ht10 := HGD.out.1 t (List.mem_of_getElem? ht)
          obtain ⟨n, hn⟩ : ∃ n, n = 256 * t + cc := ⟨_, rfl⟩
          have hni : 256 * (t : Int) + (cc : Int) = (n : Int) := by omega
          have hset := mulRow_set (c := y) ht
          rw [← HCC.out, ← hn] at hset
          have hget := mulRow_get (c := y) ht
          have hmt := mulGo_take (c := y) ht
          rw [← HCC.out, ← hn] at hmt
          obtain ⟨g, rfl, hg1, hg2, -, hlc, hcm, hfz, hcell, hset2, F6⟩ := own_set hO2 j2 hjl2 (.int .i64 ((n % 10 : Nat) : Int))
          have hcell2 : (intCells (natInts (mulRow y D j2)))[j2]? = some (.int .i64 (t : Int)) := by rw [intCells_get, List.getElem?_map, hget]; rfl
          rw [hcell2] at hcell
          have hset3 : (intCells (natInts (mulRow y D j2))).set j2 (.int .i64 ((n % 10 : Nat) : Int)) = intCells (natInts (mulRow y D (j2 + 1))) := by
            rw [← hset]
            simp only [intCells, natInts, List.map_set]
          rw [hset3] at hset2
          have q3 : (0 : Int) ≤ (j2 : Int) := by omega
          have q4 : (j2 : Int) < (D.length : Int) := by omega
          have hnl : n ≤ 2559 := by omega
          obtain ⟨r, hr⟩ : ∃ r, r = n % 10 := ⟨_, rfl⟩
          obtain ⟨qq, hqq⟩ : ∃ qq, qq = n / 10 := ⟨_, rfl⟩
          have hn1 : (n : Int) % 10 = (r : Int) := by omega
          have hn2 : (n : Int) / 10 = (qq : Int) := by omega
          rw [← hr] at hset2
          rw [← hqq] at hmt
          have hrl : r < 10 := by omega
          have hql : qq ≤ 255 := by omega
          rw [← hr] at F6
          have HSET := Lib.hid hset2
          have HMT := Lib.hid hmt
          have HF6 := Lib.hid (F5.trans' F6 (fun i hi e => by have := HBASE.out; omega))
          clear hr hqq
          have hcx : D.length ≤ c1 := hlc
          clear hset hset2 hset3 hget hmt hcell2 ht hn F5 F6 hO2 hcm
          go_wp2_with fail
          go_roundg (D.length - (j2 + 1))
          case measure => rw [HG2.out]; omega
          case rel => exact ⟨j2 + 1, rfl, by omega, by rw [HMT.out], by go_num, HSET.out, HF6.out⟩
        · obtain rfl : j2 = D.length := by omega
          have q4 : ¬ (D.length : Int) < (D.length : Int) := by omega
          rw [mulRow_all] at hO2
          have hcc2 := HCC.out
          rw [List.take_length] at hcc2
          obtain ⟨M, hM⟩ : ∃ M, M = (mulGo y D).1 := ⟨_, rfl⟩
          have hMl : M.length = D.length := by rw [hM, mulGo_len]
          have hstep : digsS (l.take (j + 1)) = M ++ tailD 3 cc := by rw [HDN.out, ← HD.out]; unfold stepD; rw [← HYX.out, ← hM, ← hcc2]
          rw [← hM, ← hMl] at hO2
          rw [← hMl] at hDl q4 ⊢
          have HO2 := Lib.hid hO2
          have HSTEP := Lib.hid hstep
          have hcc3 : cc ≤ 255 := hcs
          clear hcc2 hM hstep hO2 F5 HCC
          go_upto_region 13 with fail
          go_loopg [3, 5] cc (fun g dd c wi => ∃ (m f : Nat) (dn : List Nat) (a3 : Option Addr) (c3 : Nat), g = m ∧ m ≤ 255 ∧ c = .int .i64 m ∧ dd = .slice a3 (M ++ dn).length c3 ∧ dn ++ tailD f m = tailD 3 cc ∧ dn.length + f = 3 ∧ m < 10 ^ f ∧ wi.ownsRow base 3 1 (.slice a3 (M ++ dn).length c3) (M ++ dn).length (intCells (natInts (M ++ dn))) ∧ Fr (fun _ => False) w2 wi)
          case atStart => exact ⟨cc, 3, [], a1, c1, rfl, hcc3, rfl, by rw [List.append_nil, hMl], rfl, rfl, Nat.lt_of_le_of_lt hcc3 (by decide), by rw [List.append_nil]; exact HO2.out, HF5.out⟩
          case round =>
            obtain ⟨m, f, dn, a3, c3, hg, hm, rfl, rfl, hT, hdf, hmf, hO3, F7⟩ := hrel
            have HG3 := Lib.hid hg
            have HT := Lib.hid hT
            have HO3 := Lib.hid hO3
            have HMF := Lib.hid hmf
            have HF7 := Lib.hid F7
            clear hg hT hO3 hmf
            obtain ⟨L3, hL3⟩ : ∃ L3, L3 = (M ++ dn).length := ⟨_, rfl⟩
            have hL3l : L3 ≤ 30 := by rw [hL3, List.length_append]; omega
            rw [← hL3] at HO3 ⊢
            have HL3 := Lib.hid hL3
            clear hL3
            by_cases h0 : m = 0
            · subst h0
              have hend : dn = tailD 3 cc := by
                have := HT.out
                rw [show tailD f 0 = [] from by cases f <;> simp [tailD], List.append_nil] at this
                exact this
              have hnx : digsS (l.take (j + 1)) = M ++ dn := by rw [HSTEP.out, hend]
              have HNX := Lib.hid hnx
              clear hend hnx F7
              go_wp2_with fail
              go_roundg (l.length - (j + 1))
              case measure => rw [HG.out]; omega
              case rel => exact ⟨j + 1, M ++ dn, a3, c3, rfl, by omega, by go_num, by rw [HL3.out], HNX.out.symm, by rw [← HL3.out]; exact HO3.out, HF7.out⟩
            · have q5 : (0 : Int) < (m : Int) := by omega
              obtain ⟨f, rfl⟩ : ∃ f', f = f' + 1 := by
                cases f with
                | zero => have := HMF.out; simp at this; omega
                | succ f => exact ⟨f, rfl⟩
              obtain ⟨r, hr⟩ : ∃ r, r = m % 10 := ⟨_, rfl⟩
              obtain ⟨qq, hqq⟩ : ∃ qq, qq = m / 10 := ⟨_, rfl⟩
              have hn1 : (m : Int) % 10 = (r : Int) := by omega
              have hn2 : (m : Int) / 10 = (qq : Int) := by omega
              have hmf2 : qq < 10 ^ f := by have := HMF.out; rw [Nat.pow_succ] at this; omega
              have hT2 : (dn ++ [r]) ++ tailD f qq = tailD 3 cc := by
                rw [← HT.out, tailD, if_neg h0, ← hr, ← hqq]
                simp
              have HMF2 := Lib.hid hmf2
              have HT2 := Lib.hid hT2
              have hql : qq < m := by omega
              obtain ⟨a7, c7, w7, hr7, ho7, F8, -⟩ := add_int (xs := natInts (M ++ dn)) HO3.out (by have := HBASE.out; have := F7.size; omega) (by omega) (r : Int) wr.heap.size ((Fr.refl (S := fun _ => False) wr).alloc (.cells #[.int .i64 (r : Int)] 3)) (Blk.new wr 3 #[.int .i64 (r : Int)])
              have hvb := (Vals.of_own HO3.out).2
              have HF8 := Lib.hid (F7.trans' F8 (fun i hi e => by have := hvb i e; have := HBASE.out; omega))
              have hcat : natInts (M ++ dn) ++ [(r : Int)] = natInts (M ++ (dn ++ [r])) := by simp [natInts]
              have hlen : L3 + 1 = (M ++ (dn ++ [r])).length := by rw [HL3.out]; simp; omega
              rw [hcat] at ho7
              rw [hlen] at ho7 hr7
              have HO7 := Lib.hid ho7
              have HRUN := Lib.hid hr7
              clear hr hqq hmf2 hT2 ho7 hr7 F8 hvb hcat hlen F7
              obtain ⟨L4, hL4⟩ : ∃ L4, L4 = (M ++ (dn ++ [r])).length := ⟨_, rfl⟩
              rw [← hL4] at HO7 HRUN
              have HL4 := Lib.hid hL4
              clear hL4
              go_wp2_with (at_builtin; refine wpList_append_run (by rfl) (.tmp 48) (.tmp 51) 22 (by rfl) _ w7 (by exact HRUN.out) ?_)
              go_roundg qq
              case measure => rw [HG3.out]; omega
              case rel => exact ⟨qq, f, dn ++ [r], a7, c7, rfl, by omega, by go_num, by rw [HL4.out], HT2.out, by simp; omega, HMF2.out, by rw [← HL4.out]; exact HO7.out, HF8.out⟩
    · obtain rfl : j = l.length := by omega
      have q2 : ¬ (l.length : Int) < (l.length : Int) := by omega
      have hDD := HD.out
      rw [List.take_length] at hDD
      have HDD := Lib.hid hDD
      have HGD10 := Lib.hid HGD.out.1
      have s0 := BZ4.cell 0
      simp at s0
      clear hDD HD
      obtain ⟨wo, hwo⟩ : ∃ wo : World, wo = wr := ⟨_, rfl⟩
      obtain rfl := hwo
      have HINT := Lib.hid (Vals.of_own HO1.out).1
      go_upto_region 18 with fail
      clear s0 s1
      go_loopg [8, 9] D.length (fun g s i wi => ∃ j : Nat, g = D.length - j ∧ j ≤ D.length ∧ s = str (decText (D.take j)) ∧ i = .int .i64 j ∧ Fr (fun _ => False) wo wi)
      case atStart => exact ⟨0, rfl, Nat.zero_le _, rfl, rfl, Fr.refl _⟩
      case round =>
        obtain ⟨j, hg, hj, rfl, rfl, F5⟩ := hrel
        have HG5 := Lib.hid hg
        have HF5 := Lib.hid F5
        clear hg
        by_cases hjl : j < D.length
        · obtain ⟨x, hx⟩ : ∃ x, D[j]? = some x := ⟨_, List.getElem?_eq_getElem hjl⟩
          have hx10 := HGD10.out x (List.mem_of_getElem? hx)
          obtain ⟨b1, o1, rfl, hy⟩ : ∃ b o, a1 = some ⟨b, o, none⟩ ∧ ∀ i x, (natInts D)[i]? = some x → wr.cell? ⟨b, o + i, none⟩ = some (.int .i64 x) := by
            obtain ⟨a0, c0, he, -, -, hy⟩ := Ints.form (HINT.out.old F5)
            simp only [Value.slice.injEq] at he
            obtain ⟨rfl, -, -⟩ := he
            exact hy (by simp [natInts]; omega)
          have e1 := hy j (x : Int) (by rw [List.getElem?_map, hx]; rfl)
          have hdt : decText (D.take (j + 1)) = UInt8.ofNat (48 + x) :: decText (D.take j) := by
            unfold decText
            rw [List.take_add_one, hx]
            simp
          have HDT := Lib.hid hdt
          obtain ⟨T, hT⟩ : ∃ T, T = decText (D.take j) := ⟨_, rfl⟩
          have hTl : T.length ≤ 30 := by rw [hT]; simp [decText]; omega
          rw [← hT] at HDT ⊢
          obtain ⟨q, hq⟩ : ∃ q, q = 48 + x := ⟨_, rfl⟩
          rw [← hq] at HDT
          have hqi : 48 + (x : Int) = (q : Int) := by omega
          have hql : q < 256 := by omega
          have hw8 : IntKind.u8.wrap (q : Int) = (q : Int) := by simp [IntKind.wrap, IntKind.signed, IntKind.bits]; omega
          have hsb : Bytes (wr.alloc (.cells #[.int .u8 q] 5)) (.slice (some ⟨wr.heap.size, 0, none⟩) 1 1) [UInt8.ofNat q] := by
            have e8 := Go.Q.u8 q hql
            have BX := Blk.new wr 5 #[.int .u8 q]
            have BX' : Blk (wr.alloc (.cells #[.int .u8 q] 5)) wr.heap.size 5 (Lib.byteCells [UInt8.ofNat q]).toArray := by
              simpa [Lib.byteCells, e8] using BX
            exact Vals.of_block BX' (by simp [Lib.byteCells]; unfold maxLen; omega)
          have hcv := str_of hsb
          have hs1 : (ByteArray.mk [UInt8.ofNat q].toArray).size = 1 := rfl
          have hs2 : (ByteArray.mk T.toArray).size = T.length := by simp [ByteArray.size]
          have q3 : (0 : Int) ≤ (j : Int) := by omega
          have q4 : (j : Int) < (D.length : Int) := by omega
          have F6 := F5.alloc (.cells #[.int .u8 q] 5)
          have HF6 := Lib.hid F6
          clear hy hx hdt hq hsb F5 F6 hT
          go_wp2_with fail
          go_roundg (D.length - (j + 1))
          case measure => rw [HG5.out]; omega
          case rel => exact ⟨j + 1, rfl, by omega, by rw [HDT.out, show UInt8.ofNat q :: T = [UInt8.ofNat q] ++ T from rfl]; exact congrArg Value.string (ba_cat _ _), by go_num, HF6.out⟩
        · obtain rfl : j = D.length := by omega
          have q4 : ¬ (D.length : Int) < (D.length : Int) := by omega
          obtain ⟨T, hT⟩ : ∃ T, T = decText (D.take D.length) := ⟨_, rfl⟩
          have hres : decText (digsS l) = T := by rw [hT, List.take_length, HDD.out]
          have HRES := Lib.hid hres
          rw [← hT]
          have BZ6 := BZ4.fr F5 (fun h => h)
          have s0 := BZ6.cell 0
          simp at s0
          have HG6 := Lib.hid ((HF2.out.trans HF4.out).trans F5)
          clear hres BZ6 F5 hT
          go_wp2_with fail
          go_ret
          exact ⟨by rw [HRES.out]; rfl, HG6.out⟩
end Go.Proofs.YtgffhiopbnkjbaaGreatDoor

namespace Go.Proofs.YtgffhiopbnkjbaaGreatDoor
open Go Go.RowKit Go.Q
set_option linter.unusedSimpArgs false

/-- A number's text. -/
theorem r03num_any (n : Nat) (hn : n ≤ 2147483647) (v : Value) (w : World) (h : Bytes w v (b256 8 n)) :
    Calls Tryz.prog 160 #[.agg #[.bool false, v]] w fun e w' => e = .returned (str (Lib.itoa n)) ∧ Fr (fun _ => False) w w' := by
  have e := num_text (n := (n : Int)) (by omega) (by omega)
  rw [show ((n : Int)).toNat = n from by omega] at e
  rw [← e]
  exact r03Text_any v (b256 8 n) w h (b256_head 8 n (Nat.lt_of_le_of_lt hn (by decide))) (b256_len 8 n)

set_option maxRecDepth 20000 in
set_option maxHeartbeats 2000000 in
theorem r04Text_any (v : Value) (o : List Int) (w : World) (h : Ints w v o) (ho : ∀ n ∈ o, 0 ≤ n ∧ n ≤ 2147483647) (hl : o.length ≤ 100) :
    Calls Tryz.prog 120 #[v] w fun e w' => e = .returned (str (oidTextS o)) ∧ Fr (fun _ => False) w w' := by
  obtain ⟨a, cap, rfl, -, -, hx⟩ := Ints.form h
  have HX := Lib.hid hx
  have HO := Lib.hid ho
  obtain ⟨R, hR⟩ : ∃ R, R = oidTextS o := ⟨_, rfl⟩
  have HR := Lib.hid hR
  rw [← hR]
  clear h hx ho hR
  go_enter Tryz.func120, Tryz.ntmps120
  go_wp2_with fail
  go_loopg [3, 4] o.length (fun g s i wr => ∃ (j : Nat) (T : List UInt8), g = o.length - j ∧ j ≤ o.length ∧ T = oidTextS (o.take j) ∧ s = str T ∧ i = .int .i64 j ∧ Fr (fun _ => False) w wr)
  case atStart => exact ⟨0, [], rfl, Nat.zero_le _, rfl, rfl, rfl, Fr.refl _⟩
  case round =>
    obtain ⟨j, T, hg, hj, hT, rfl, rfl, F⟩ := hrel
    have HG := Lib.hid hg
    have HT := Lib.hid hT
    have HF := Lib.hid F
    have hTl : T.length ≤ 3000 := by
      have := oidText_len (o := o.take j) (fun n hn => by have := HO.out n (List.mem_of_mem_take hn); omega)
      rw [← hT, List.length_take] at this
      omega
    have hs2 : (ByteArray.mk T.toArray).size = T.length := by simp [ByteArray.size]
    clear hg hT
    by_cases hjl : j < o.length
    · obtain ⟨b, off, rfl, hy⟩ := HX.out (by omega)
      obtain ⟨x, hxj⟩ : ∃ x, o[j]? = some x := ⟨_, List.getElem?_eq_getElem hjl⟩
      have ex := F.cell (hy j x hxj) (fun h => h)
      have hx0 := HO.out x (List.mem_of_getElem? hxj)
      obtain ⟨y, hyx⟩ : ∃ y : Nat, x = (y : Int) := ⟨x.toNat, by omega⟩
      subst hyx
      have hyl : y ≤ 2147483647 := by omega
      have HC := Lib.hid (r03Of_any y hyl wr)
      have q1 : (0 : Int) ≤ (j : Int) := by omega
      have q2 : (j : Int) < (o.length : Int) := by omega
      obtain ⟨I, hI⟩ : ∃ I, I = Lib.itoa (y : Int) := ⟨_, rfl⟩
      have hIl : I.length ≤ 20 := by rw [hI]; exact itoa_len (by omega) (by omega)
      have hs3 : (ByteArray.mk I.toArray).size = I.length := by simp [ByteArray.size]
      have HI := Lib.hid hI
      rcases Nat.eq_zero_or_pos j with h0 | h0
      · subst h0
        rw [Nat.add_zero] at ex
        have hnx : oidTextS (o.take 1) = I := by rw [oidText_first hxj, hI]
        have hT0 : T = [] := by rw [HT.out]; rfl
        subst hT0
        have HNX := Lib.hid hnx
        clear hy hxj hnx hI F hs2
        go_wp2_with fail
        refine HC.out.mono ?_
        rintro e w1 ⟨v1, rfl, hv1, F1⟩
        obtain ⟨a1, c1, rfl, -⟩ := hv1.form
        have HC2 := r03num_any y hyl _ w1 hv1
        rw [← HI.out] at HC2
        have HCC := Lib.hid HC2
        have HF1 := Lib.hid (HF.out.trans F1)
        clear HC HC2 hv1 F1
        go_wp2_with fail
        refine HCC.out.mono ?_
        rintro e w2 ⟨rfl, F2⟩
        have HF2 := Lib.hid (HF1.out.trans F2)
        clear F2 HCC HF1
        go_wp2_with fail
        go_roundg (o.length - 1)
        case measure => rw [HG.out]; omega
        case rel => exact ⟨1, I, rfl, by omega, HNX.out.symm, by first | rfl | exact congrArg Value.string (ba_cat [] I), by go_num, HF2.out⟩
      · have q3 : (0 : Int) < (j : Int) := by omega
        obtain ⟨j, rfl⟩ : ∃ j', j = j' + 1 := ⟨j - 1, by omega⟩
        have hnx : oidTextS (o.take (j + 1 + 1)) = T ++ [46] ++ I := by rw [oidText_next hxj, hI, HT.out]
        have HNX := Lib.hid hnx
        have hs4 : (ByteArray.mk (T ++ [46]).toArray).size = T.length + 1 := by simp [ByteArray.size]
        have hcat : (ByteArray.mk T.toArray) ++ (ByteArray.mk #[46]) = ByteArray.mk (T ++ [46]).toArray := ba_cat T [46]
        clear hy hxj hnx hI F
        go_wp2_with fail
        refine HC.out.mono ?_
        rintro e w1 ⟨v1, rfl, hv1, F1⟩
        obtain ⟨a1, c1, rfl, -⟩ := hv1.form
        have HC2 := r03num_any y hyl _ w1 hv1
        rw [← HI.out] at HC2
        have HCC := Lib.hid HC2
        have HF1 := Lib.hid (HF.out.trans F1)
        clear HC HC2 hv1 F1
        go_wp2_with fail
        refine HCC.out.mono ?_
        rintro e w2 ⟨rfl, F2⟩
        have HF2 := Lib.hid (HF1.out.trans F2)
        clear F2 HCC HF1
        go_wp2_with fail
        go_roundg (o.length - (j + 1 + 1))
        case measure => rw [HG.out]; omega
        case rel => exact ⟨j + 1 + 1, T ++ [46] ++ I, rfl, by omega, HNX.out.symm, by first | exact congrArg Value.string (ba_cat (T ++ [46]) I) | (rw [List.append_assoc, ← ba_cat, ← ba_cat]) | (rw [← ba_cat, ← ba_cat]), by go_num, HF2.out⟩
    · obtain rfl : j = o.length := by omega
      have q2 : ¬ (o.length : Int) < (o.length : Int) := by omega
      have hres : R = T := by rw [HR.out, HT.out, List.take_length]
      have HRES := Lib.hid hres
      clear hres
      go_wp2_with fail
      go_ret
      exact ⟨by rw [HRES.out]; rfl, HF.out⟩
end Go.Proofs.YtgffhiopbnkjbaaGreatDoor

namespace Go.Q
open Go
theorem fold_blank {s : List Int × Bool} {n : Int} (h : blankB n = true) : foldStep s n = (s.1, decide (0 < s.1.length)) := by unfold foldStep; rw [if_pos h]
theorem fold_sign {s : List Int × Bool} {n : Int} (h : blankB n = false) : foldStep s n = ((if s.2 = true then s.1 ++ [32] else s.1) ++ [smallS n], false) := by unfold foldStep; rw [if_neg (by rw [h]; decide)]
/-- Blanks in front leave nothing. -/
theorem fold_front (l : List Int) : ∀ j, j ≤ l.length → (∀ (k : Nat) (n : Int), k < j → l[k]? = some n → blankB n = true) → foldAcc (l.take j) = ([], false)
  | 0, _, _ => rfl
  | j + 1, hj, h => by
    obtain ⟨n, hn⟩ : ∃ n, l[j]? = some n := ⟨_, List.getElem?_eq_getElem (by omega)⟩
    rw [foldAcc_take hn, fold_front l j (by omega) (fun k n hk => h k n (by omega)), fold_blank (h j n (by omega) hn)]
    rfl
/-- Blanks behind change no sign. -/
theorem fold_back (l : List Int) (t : Nat) : ∀ d, t + d ≤ l.length → (∀ (k : Nat) (n : Int), t ≤ k → l[k]? = some n → blankB n = true) → (foldAcc (l.take (t + d))).1 = (foldAcc (l.take t)).1
  | 0, _, _ => rfl
  | d + 1, hd, h => by
    obtain ⟨n, hn⟩ : ∃ n, l[t + d]? = some n := ⟨_, List.getElem?_eq_getElem (by omega)⟩
    rw [← Nat.add_assoc, foldAcc_take hn, fold_blank (h (t + d) n (by omega) hn)]
    exact fold_back l t d (by omega) h
/-- What is out behind i signs, in the reference's way. -/
def fOut (l : List Int) (i : Nat) : List Int := (foldAcc (l.take i)).1 ++ (if (foldAcc (l.take i)).2 = true then [32] else [])
/-- How it stands there. -/
def fAt (l : List Int) (fr i : Nat) : Prop := (i = fr ∧ foldAcc (l.take i) = ([], false)) ∨ (fr < i ∧ (foldAcc (l.take i)).1 ≠ [] ∧ ∀ p, l[i - 1]? = some p → (foldAcc (l.take i)).2 = blankB p)
theorem fOut_front {l : List Int} {fr : Nat} (h : foldAcc (l.take fr) = ([], false)) : fOut l fr = [] := by unfold fOut; rw [h]; rfl
theorem fOut_sign {l : List Int} {fr i : Nat} {n : Int} (_h : fAt l fr i) (hfr : fr ≤ i) (hn : l[i]? = some n) (hb : blankB n = false) : fOut l (i + 1) = fOut l i ++ [smallS n] ∧ fAt l fr (i + 1) := by
  have e := foldAcc_take hn
  rw [fold_sign hb] at e
  refine ⟨?_, .inr ⟨by omega, by rw [e]; simp, fun p hp => ?_⟩⟩
  · unfold fOut
    rw [e]
    simp only [Bool.false_eq_true, if_false, List.append_nil]
    split <;> simp
  · rw [Nat.add_sub_cancel, hn] at hp
    cases hp
    rw [e, hb]
theorem fOut_blank {l : List Int} {fr i : Nat} {n p : Int} (h : fAt l fr i) (hfr : fr < i) (hn : l[i]? = some n) (hp : l[i - 1]? = some p) (hb : blankB n = true) : fOut l (i + 1) = fOut l i ++ (if blankB p = true then [] else [32]) ∧ fAt l fr (i + 1) := by
  have e := foldAcc_take hn
  rw [fold_blank hb] at e
  rcases h with ⟨h1, -⟩ | ⟨-, h2, h3⟩
  · omega
  · have hlen : 0 < (foldAcc (l.take i)).1.length := List.length_pos_iff.2 h2
    have hd : decide (0 < (foldAcc (l.take i)).1.length) = true := decide_eq_true hlen
    rw [hd] at e
    have h3p := h3 p hp
    refine ⟨?_, .inr ⟨by omega, by rw [e]; exact h2, fun q hq => ?_⟩⟩
    · unfold fOut
      rw [e, h3p]
      cases hbp : blankB p <;> simp
    · rw [Nat.add_sub_cancel, hn] at hq
      cases hq
      rw [e, hb]
/-- All of it. -/
theorem fOut_all {l : List Int} {fr t : Nat} (h : fAt l fr t) (ht : t ≤ l.length) (hl : fr < t → ∀ p, l[t - 1]? = some p → blankB p = false) (hb : ∀ (k : Nat) (n : Int), t ≤ k → l[k]? = some n → blankB n = true) : foldS l = fOut l t := by
  have e := fold_back l t (l.length - t) (by omega) hb
  rw [show t + (l.length - t) = l.length from by omega, List.take_length] at e
  have e2 : foldS l = (foldAcc l).1 := rfl
  rw [e2, e]
  unfold fOut
  rcases h with ⟨-, h1⟩ | ⟨h1, h2, h3⟩
  · rw [h1]; rfl
  · obtain ⟨p, hp⟩ : ∃ p, l[t - 1]? = some p := ⟨_, List.getElem?_eq_getElem (by omega)⟩
    rw [h3 p hp, hl h1 p hp]
    simp
theorem fOut_len (l : List Int) (i : Nat) : (fOut l i).length ≤ 2 * i + 1 := by
  unfold fOut
  have h1 := foldAcc_len (l.take i)
  have h2 : (l.take i).length ≤ i := by rw [List.length_take]; omega
  rw [List.length_append]
  split <;> simp only [List.length_cons, List.length_nil] <;> omega
end Go.Q

namespace Go.Proofs.YtgffhiopbnkjbaaGreatDoor
open Go Go.RowKit Go.Q
set_option linter.unusedSimpArgs false

set_option maxRecDepth 20000 in
theorem r13blank_any (n : Int) (w : World) :
    Calls Tryz.prog 207 #[.int .i64 n] w fun e w' => e = .returned (.bool (blankB n)) ∧ w = w' := by
  have hc : n = 32 ∨ n = 9 ∨ n = 10 ∨ n = 11 ∨ n = 12 ∨ n = 13 ∨ (n ≠ 32 ∧ n ≠ 9 ∧ n ≠ 10 ∧ n ≠ 11 ∧ n ≠ 12 ∧ n ≠ 13) := by omega
  rcases hc with rfl | rfl | rfl | rfl | rfl | rfl | ⟨h0, h1, h2, h3, h4, h5⟩
  case' inr.inr.inr.inr.inr.inr =>
    have hb : blankB n = false := decide_eq_false (by omega)
    rw [hb]
    have q0 : (n == 32) = false := beq_eq_false_iff_ne.2 h0
    have q1 : (n == 9) = false := beq_eq_false_iff_ne.2 h1
    have q2 : (n == 10) = false := beq_eq_false_iff_ne.2 h2
    have q3 : (n == 11) = false := beq_eq_false_iff_ne.2 h3
    have q4 : (n == 12) = false := beq_eq_false_iff_ne.2 h4
    have q5 : (n == 13) = false := beq_eq_false_iff_ne.2 h5
    clear hb h0 h1 h2 h3 h4 h5
  all_goals
    go_enter Tryz.func207, Tryz.ntmps207
    go_wp2_with fail
    go_ret
    exact ⟨rfl, rfl⟩

set_option maxRecDepth 20000 in
set_option maxHeartbeats 4000000 in
theorem r13Signs_any (v : Value) (l : List Int) (w : World) (h : Ints w v l) (hl : l.length ≤ 1099511627) :
    Calls Tryz.prog 162 #[v] w fun e w' => ∃ u, e = .returned u ∧ w'.ownsRow w.heap.size 3 1 u (foldS l).length (intCells (foldS l)) ∧ Fr (fun _ => False) w w' := by
  obtain ⟨a, cap, rfl, -, -, hx⟩ := Ints.form h
  have HX := Lib.hid hx
  have HBL := Lib.hid r13blank_any
  obtain ⟨R, hR⟩ : ∃ R, R = foldS l := ⟨_, rfl⟩
  rw [← hR]
  have HR := Lib.hid hR
  clear h hx hR
  go_enter Tryz.func162, Tryz.ntmps162
  go_upto_block 0 with fail
  go_cut [3] from 10 to 21 (fun s wc => ∃ j : Nat, s = .int .i64 j ∧ j ≤ l.length ∧ (∀ (k : Nat) (n : Int), k < j → l[k]? = some n → blankB n = true) ∧ (∀ n, l[j]? = some n → blankB n = false) ∧ wc = w)
  case first =>
    go_wp2_with fail
    go_loopg [3] l.length (fun g s wr => ∃ j : Nat, g = l.length - j ∧ j ≤ l.length ∧ s = .int .i64 j ∧ (∀ (k : Nat) (n : Int), k < j → l[k]? = some n → blankB n = true) ∧ wr = w)
    case atStart => exact ⟨0, rfl, Nat.zero_le _, rfl, fun k n hk => absurd hk (Nat.not_lt_zero _), rfl⟩
    case round =>
      obtain ⟨j, hg, hj, rfl, hall, rfl⟩ := hrel
      have HG := Lib.hid hg
      have HA := Lib.hid hall
      clear hg hall
      by_cases hjl : j < l.length
      · obtain ⟨b, off, rfl, hy⟩ := HX.out (by omega)
        obtain ⟨x, hxj⟩ : ∃ x, l[j]? = some x := ⟨_, List.getElem?_eq_getElem hjl⟩
        have ex := hy j x hxj
        have HXJ := Lib.hid hxj
        have q1 : (0 : Int) ≤ (j : Int) := by omega
        have q2 : (j : Int) < (l.length : Int) := by omega
        clear hy hxj
        rcases Bool.eq_false_or_eq_true (blankB x) with hb | hb
        · have HC := HBL.out x wr
          rw [hb] at HC
          have HCC := Lib.hid HC
          have HB := Lib.hid hb
          clear HC hb
          go_wp2_with fail
          refine HCC.out.mono ?_
          rintro e w' ⟨rfl, rfl⟩
          go_wp2_with fail
          go_roundg (l.length - (j + 1))
          case measure => rw [HG.out]; omega
          case rel =>
            refine ⟨j + 1, rfl, by omega, by go_num, fun k n hk hn => ?_, rfl⟩
            rcases Nat.lt_or_ge k j with h | h
            · exact HA.out k n h hn
            · obtain rfl : k = j := by omega
              rw [HXJ.out] at hn
              cases hn
              exact HB.out
        · have HC := HBL.out x wr
          rw [hb] at HC
          have HCC := Lib.hid HC
          have HB := Lib.hid hb
          clear HC hb
          go_wp2_with fail
          refine HCC.out.mono ?_
          rintro e w' ⟨rfl, rfl⟩
          go_wp2_with fail
          go_meet
          exact ⟨j, rfl, hj, HA.out, fun n hn => by rw [HXJ.out] at hn; cases hn; exact HB.out, rfl⟩
      · obtain rfl : j = l.length := by omega
        have q2 : ¬ (l.length : Int) < (l.length : Int) := by omega
        go_wp2_with fail
        go_meet
        exact ⟨l.length, rfl, Nat.le_refl _, HA.out, fun n hn => by simp at hn, rfl⟩
  case rest =>
    obtain ⟨fr, rfl, hfl, hfa, hfn, rfl⟩ := hcut
    have HFA := Lib.hid hfa
    have HFN := Lib.hid hfn
    clear hfa hfn
    go_upto_block 2 with fail
    go_cut [4] from 22 to 34 (fun s wx => ∃ t : Nat, s = .int .i64 t ∧ fr ≤ t ∧ t ≤ l.length ∧ (∀ (k : Nat) (n : Int), t ≤ k → l[k]? = some n → blankB n = true) ∧ (fr < t → ∀ p, l[t - 1]? = some p → blankB p = false) ∧ wx = wc)
    case first =>
      go_wp2_with fail
      go_loopg [4] l.length (fun g s wr => ∃ t : Nat, g = t ∧ fr ≤ t ∧ t ≤ l.length ∧ s = .int .i64 t ∧ (∀ (k : Nat) (n : Int), t ≤ k → l[k]? = some n → blankB n = true) ∧ wr = wc)
      case atStart =>
        have hn0 : ∀ (k : Nat) (n : Int), l.length ≤ k → l[k]? = some n → blankB n = true := fun k n hk hn => by
          rw [List.getElem?_eq_none hk] at hn
          cases hn
        refine ⟨l.length, rfl, hfl, Nat.le_refl _, ?_⟩
        first | exact ⟨rfl, hn0, rfl⟩ | exact ⟨hn0, rfl⟩
      case round =>
        obtain ⟨t, hg, hft, htl, rfl, hall, rfl⟩ := hrel
        have HG := Lib.hid hg
        have HA := Lib.hid hall
        clear hg hall
        by_cases hlt : fr < t
        · obtain ⟨b, off, rfl, hy⟩ := HX.out (by omega)
          obtain ⟨x, hxj⟩ : ∃ x, l[t - 1]? = some x := ⟨_, List.getElem?_eq_getElem (by omega)⟩
          have ex := hy (t - 1) x hxj
          have HXJ := Lib.hid hxj
          have q1 : (0 : Int) ≤ (t : Int) - 1 := by omega
          have q2 : (t : Int) - 1 < (l.length : Int) := by omega
          have q3 : (fr : Int) < (t : Int) := by omega
          have hin : ((t : Int) - 1).toNat = t - 1 := by omega
          clear hy hxj
          rcases Bool.eq_false_or_eq_true (blankB x) with hb | hb
          · have HC := HBL.out x wr
            rw [hb] at HC
            have HCC := Lib.hid HC
            have HB := Lib.hid hb
            clear HC hb
            go_wp2_with fail
            refine HCC.out.mono ?_
            rintro e w' ⟨rfl, rfl⟩
            go_wp2_with fail
            go_roundg (t - 1)
            case measure => rw [HG.out]; omega
            case rel =>
              refine ⟨t - 1, rfl, by omega, by omega, by congr 1; omega, fun k n hk hn => ?_, rfl⟩
              rcases Nat.lt_or_ge k t with h | h
              · obtain rfl : k = t - 1 := by omega
                rw [HXJ.out] at hn
                cases hn
                exact HB.out
              · exact HA.out k n h hn
          · have HC := HBL.out x wr
            rw [hb] at HC
            have HCC := Lib.hid HC
            have HB := Lib.hid hb
            clear HC hb
            go_wp2_with fail
            refine HCC.out.mono ?_
            rintro e w' ⟨rfl, rfl⟩
            go_wp2_with fail
            go_meet
            exact ⟨t, rfl, hft, htl, HA.out, fun _ p hp => by rw [HXJ.out] at hp; cases hp; exact HB.out, rfl⟩
        · have q3 : ¬ (fr : Int) < (t : Int) := by omega
          go_wp2_with fail
          go_meet
          exact ⟨t, rfl, hft, htl, HA.out, fun h => absurd h hlt, rfl⟩
    case rest =>
      obtain ⟨t, rfl, hft, htl, hback, hlast, rfl⟩ := hcut
      have HBK := Lib.hid hback
      have HLS := Lib.hid hlast
      have hf0 := fold_front l fr hfl HFA.out
      have HF0 := Lib.hid hf0
      clear hback hlast hf0
      go_wp2_with fail
      go_loopg [5, 6] (t - fr) (fun g u i wr => ∃ (j : Nat) (L : Nat) (a1 : Option Addr) (c1 : Nat), g = t - j ∧ fr ≤ j ∧ j ≤ t ∧ u = .slice a1 L c1 ∧ i = .int .i64 j ∧ L = (fOut l j).length ∧ fAt l fr j ∧ wr.ownsRow wc.heap.size 3 1 (.slice a1 L c1) L (intCells (fOut l j)) ∧ Fr (fun _ => False) wc wr)
      case atStart => exact ⟨fr, 0, none, 0, rfl, Nat.le_refl _, hft, rfl, rfl, by rw [fOut_front HF0.out]; rfl, .inl ⟨rfl, HF0.out⟩, by rw [fOut_front HF0.out]; exact ⟨rfl, .inl ⟨rfl, rfl⟩⟩, Fr.refl _⟩
      case round =>
        obtain ⟨j, L, a1, c1, hg, hfj, hjt, rfl, rfl, hL, hA, hO, F⟩ := hrel
        have HG := Lib.hid hg
        have HL := Lib.hid hL
        have HA := Lib.hid hA
        have HO := Lib.hid hO
        have HF := Lib.hid F
        have hLl : L ≤ 3000000000 := by have := fOut_len l j; omega
        clear hg hL hA hO
        by_cases hjl : j < t
        · obtain ⟨b, off, rfl, hy⟩ := HX.out (by omega)
          obtain ⟨x, hxj⟩ : ∃ x, l[j]? = some x := ⟨_, List.getElem?_eq_getElem (by omega)⟩
          have ex := F.cell (hy j x hxj) (fun h => h)
          have HXJ := Lib.hid hxj
          have q1 : (0 : Int) ≤ (j : Int) := by omega
          have q2 : (j : Int) < (l.length : Int) := by omega
          have q3 : (j : Int) < (t : Int) := by omega
          have hbase : wc.heap.size ≤ wr.heap.size := F.size
          have hvb := (Vals.of_own HO.out).2
          clear hxj
          rcases Bool.eq_false_or_eq_true (blankB x) with hb | hb
          · have hfr : fr < j := by
              rcases Nat.lt_or_ge fr j with h | h
              · exact h
              · obtain rfl : fr = j := by omega
                have := HFN.out x HXJ.out
                rw [hb] at this
                cases this
            obtain ⟨p, hp⟩ : ∃ p, l[j - 1]? = some p := ⟨_, List.getElem?_eq_getElem (by omega)⟩
            have ep := F.cell (hy (j - 1) p hp) (fun h => h)
            obtain ⟨hn1, hn2⟩ := fOut_blank HA.out hfr HXJ.out hp hb
            have HC := HBL.out x wr
            rw [hb] at HC
            have HCC := Lib.hid HC
            have q4 : (0 : Int) ≤ (j : Int) - 1 := by omega
            have q5 : (j : Int) - 1 < (l.length : Int) := by omega
            have hin : ((j : Int) - 1).toNat = j - 1 := by omega
            have HN1 := Lib.hid hn1
            have HN2 := Lib.hid hn2
            clear HC hy hn1 hn2 hp
            rcases Bool.eq_false_or_eq_true (blankB p) with hbp | hbp
            · have HP := HBL.out p wr
              rw [hbp] at HP
              have HPP := Lib.hid HP
              have hnx : fOut l (j + 1) = fOut l j := by rw [HN1.out, if_pos hbp, List.append_nil]
              have HNX := Lib.hid hnx
              clear HP hbp hb hnx hvb F
              go_wp2_with fail
              refine HCC.out.mono ?_
              rintro e w' ⟨rfl, rfl⟩
              go_wp2_with fail
              refine HPP.out.mono ?_
              rintro e w' ⟨rfl, rfl⟩
              go_wp2_with fail
              go_roundg (t - (j + 1))
              case measure => rw [HG.out]; omega
              case rel => exact ⟨j + 1, L, a1, c1, rfl, by omega, by omega, rfl, by go_num, by rw [HNX.out]; exact HL.out, HN2.out, by rw [HNX.out]; exact HO.out, HF.out⟩
            · have HP := HBL.out p wr
              rw [hbp] at HP
              have HPP := Lib.hid HP
              have hnx : fOut l (j + 1) = fOut l j ++ [32] := by rw [HN1.out, if_neg (by rw [hbp]; decide)]
              have HNX := Lib.hid hnx
              obtain ⟨a7, c7, w7, hr7, ho7, F7, -⟩ := add_int HO.out hbase (by omega) (32 : Int) wr.heap.size ((Fr.refl (S := fun _ => False) wr).alloc (.cells #[.int .i64 (32 : Int)] 3)) (Blk.new wr 3 #[.int .i64 (32 : Int)])
              have HF7 := Lib.hid (F.trans' F7 (fun i hi e => by have := hvb i e; omega))
              rw [← hnx] at ho7
              have HO7 := Lib.hid ho7
              have HRUN := Lib.hid hr7
              clear HP hbp hb hnx hvb F ho7 hr7 F7
              go_wp2_with fail
              refine HCC.out.mono ?_
              rintro e w' ⟨rfl, rfl⟩
              go_wp2_with fail
              refine HPP.out.mono ?_
              rintro e w' ⟨rfl, rfl⟩
              go_wp2_with (at_builtin; refine wpList_append_run (by rfl) (.tmp 54) (.tmp 55) 22 (by rfl) _ w7 (by exact HRUN.out) ?_)
              go_roundg (t - (j + 1))
              case measure => rw [HG.out]; omega
              case rel => exact ⟨j + 1, L + 1, a7, c7, rfl, by omega, by omega, rfl, by go_num, by rw [HNX.out, List.length_append, ← HL.out]; rfl, HN2.out, HO7.out, HF7.out⟩
          · obtain ⟨hn1, hn2⟩ := fOut_sign HA.out hfj HXJ.out hb
            have HC := HBL.out x wr
            rw [hb] at HC
            have HCC := Lib.hid HC
            obtain ⟨y, hyx⟩ : ∃ y, y = smallS x := ⟨_, rfl⟩
            rw [← hyx] at hn1
            obtain ⟨a7, c7, w7, hr7, ho7, F7, -⟩ := add_int HO.out hbase (by omega) y wr.heap.size ((Fr.refl (S := fun _ => False) wr).alloc (.cells #[.int .i64 y] 3)) (Blk.new wr 3 #[.int .i64 y])
            have HF7 := Lib.hid (F.trans' F7 (fun i hi e => by have := hvb i e; omega))
            rw [← hn1] at ho7
            have HO7 := Lib.hid ho7
            have HRUN := Lib.hid hr7
            have HN1 := Lib.hid hn1
            have HN2 := Lib.hid hn2
            have hcase : ((64 : Int) < x ∧ x < 91 ∧ x + 32 = y) ∨ ((64 : Int) < x ∧ ¬ x < 91 ∧ x = y) ∨ (¬ (64 : Int) < x ∧ x = y) := by
              unfold smallS at hyx
              split at hyx <;> omega
            clear HC hb hn1 hn2 hvb F ho7 hr7 F7 hyx hy
            rcases hcase with ⟨g1, g2, g3⟩ | ⟨g1, g2, g3⟩ | ⟨g1, g3⟩
            all_goals
              subst g3
              go_wp2_with fail
              refine HCC.out.mono ?_
              rintro e w' ⟨rfl, rfl⟩
              go_wp2_with (at_builtin; refine wpList_append_run (by rfl) (.tmp 65) (.tmp 67) 22 (by rfl) _ w7 (by exact HRUN.out) ?_)
              go_roundg (t - (j + 1))
              case measure => rw [HG.out]; omega
              case rel => exact ⟨j + 1, L + 1, a7, c7, rfl, by omega, by omega, rfl, by go_num, by rw [HN1.out, List.length_append, ← HL.out]; rfl, HN2.out, HO7.out, HF7.out⟩
        · obtain rfl : j = t := by omega
          have q3 : ¬ (j : Int) < (j : Int) := by omega
          have hres : R = fOut l j := by rw [HR.out]; exact fOut_all HA.out htl HLS.out HBK.out
          have HRES := Lib.hid hres
          clear hres
          go_wp2_with fail
          exact bodyPost_ret (v := .slice a1 L c1) (by simp [results, Tryz.results162, go_sem]) rfl ⟨_, rfl, by rw [HRES.out, ← HL.out]; exact HO.out, HF.out⟩
end Go.Proofs.YtgffhiopbnkjbaaGreatDoor

namespace Go.Q
open Go Go.RowKit
theorem may_nats {l : List Int} (h : ∀ n ∈ l, mayS 12 n = true) : l = natInts (l.map Int.toNat) ∧ (∀ n ∈ l.map Int.toNat, n < 1114112) ∧ encAll (l.map Int.toNat) = ofS 12 l := by
  refine ⟨?_, ?_, ?_⟩
  · unfold natInts
    rw [List.map_map]
    refine ((List.map_congr_left (fun m hm => ?_)).trans (List.map_id l)).symm
    have := h m hm
    simp [mayS, surr] at this
    simp
    omega
  · intro n hn
    obtain ⟨m, hm, rfl⟩ := List.mem_map.1 hn
    have := h m hm
    simp [mayS, surr] at this
    omega
  · simp only [ofS, encAll, List.flatMap_map]
    rfl
end Go.Q
namespace Go.Proofs.YtgffhiopbnkjbaaGreatDoor
open Go Go.RowKit Go.Q
set_option linter.unusedSimpArgs false

/-- UTF-8 of signs that may be. -/
theorem r06Utf8_may (v : Value) (l : List Int) (w : World) (h : Ints w v l) (hm : ∀ n ∈ l, mayS 12 n = true) (hl : l.length ≤ 100000000) :
    Calls Tryz.prog 28 #[v] w fun e w' => ∃ v', e = .returned v' ∧ w'.ownsRow w.heap.size 5 1 v' (ofS 12 l).length (Lib.byteCells (ofS 12 l)) ∧ Fr (fun _ => False) w w' := by
  obtain ⟨h1, h2, h3⟩ := may_nats hm
  rw [h1] at h
  have := r06Utf8_any v (l.map Int.toNat) w h h2 (by simpa using hl)
  rw [h3] at this
  exact this

set_option maxRecDepth 20000 in
set_option maxHeartbeats 2000000 in
theorem r13Key_any (k : Int) (v : Value) (b : List UInt8) (w : World) (h : Bytes w v b) (hr : rightS k b = true) (hl : b.length ≤ 16777216) :
    Calls Tryz.prog 121 #[.agg #[.int .i64 k, v]] w fun e w' => e = .returned (.tuple #[str (foldKeyS k b), .bool true]) ∧ Fr (fun _ => False) w w' := by
  obtain ⟨a, cap, rfl, -⟩ := h.form
  have F0 : Fr (fun _ => False) w (w.alloc (.cells #[.int .i64 k, .slice a b.length cap] 25)) := (Fr.refl w).alloc _
  obtain ⟨z, hz⟩ : ∃ z, z = w.heap.size := ⟨_, rfl⟩
  have BZ := Blk.new w 25 #[.int .i64 k, .slice a b.length cap]
  rw [← hz] at BZ
  have HZ := Lib.hid hz
  have hS := r06Signs_any k _ b _ (h.old F0) hl
  unfold RSigOut at hS
  rw [sigR_right hr] at hS
  simp only [Option.isSome_some, Option.getD_some] at hS
  have HS := Lib.hid hS
  have hsl := signsS_len k b
  have HM := Lib.hid (fun n hn => may12 (right_all hr n hn))
  have hfk : foldKeyS k b = ofS 12 (foldS (signsS k b)) := rfl
  rw [hfk]
  obtain ⟨S, hSS⟩ : ∃ S, S = signsS k b := ⟨_, rfl⟩
  rw [← hSS] at HS HM hsl ⊢
  have hfl : (foldS S).length ≤ 2 * S.length := foldAcc_len S
  have HFM := Lib.hid (fold_may HM.out)
  obtain ⟨R, hR⟩ : ∃ R, R = foldS S := ⟨_, rfl⟩
  rw [← hR] at hfl HFM ⊢
  have HR := Lib.hid hR
  have HF0 := Lib.hid F0
  clear h hz hS hfk hSS hR F0 hr HM
  go_enter Tryz.func121, Tryz.ntmps121
  go_upto_region 1 with fail
  rw [← HZ.out]
  generalize (w.alloc (.cells #[.int .i64 k, .slice a b.length cap] 25)) = w0 at *
  have z0 := BZ.cell 0
  have z1 := BZ.cell 1
  simp only [List.getElem?_toArray, List.getElem?_cons_succ, List.getElem?_cons_zero] at z0 z1
  go_wp2_with fail
  refine HS.out.mono ?_
  rintro e w1 ⟨v1, rfl, h1, F1⟩
  obtain ⟨a1, c1, rfl, -⟩ := Ints.form h1
  have HG := Lib.hid (r13Signs_any _ S w1 h1 (by omega))
  rw [← HR.out] at HG
  have HF1 := Lib.hid (HF0.out.trans F1)
  clear h1 F1 HS z0 z1
  go_wp2_with fail
  refine HG.out.mono ?_
  rintro e w2 ⟨v2, rfl, ho2, F2⟩
  have hI2 := (Vals.of_own ho2).1
  obtain ⟨a2, c2, rfl, -⟩ := Ints.form hI2
  have HU := Lib.hid (r06Utf8_may _ R w2 hI2 HFM.out (by omega))
  have HF2 := Lib.hid (HF1.out.trans F2)
  clear ho2 hI2 F2 HG
  go_wp2_with fail
  refine HU.out.mono ?_
  rintro e w3 ⟨v3, rfl, ho3, F3⟩
  have hB3 := (Vals.of_own ho3).1
  obtain ⟨a3, c3, rfl, -⟩ := Vals.form hB3
  have hcv := str_of hB3
  have HF3 := Lib.hid (HF2.out.trans F3)
  clear ho3 hB3 F3 HU
  go_wp2_with fail
  exact bodyPost_ret (v := .tuple #[str (ofS 12 R), .bool true]) (by simp [results, Tryz.results121, go_sem]) rfl ⟨rfl, HF3.out⟩
end Go.Proofs.YtgffhiopbnkjbaaGreatDoor

namespace Go.Q
open Go Go.RowKit
abbrev hexL : List UInt8 := [48, 49, 50, 51, 52, 53, 54, 55, 56, 57, 97, 98, 99, 100, 101, 102]
theorem hexL_fin : ∀ m : Fin 16, hexL[m.val]? = some (UInt8.ofNat (hexN (m.val : Int)).toNat) := by decide
theorem hexN_fin : ∀ m : Fin 16, (UInt8.ofNat (hexN (m.val : Int)).toNat).toNat = (hexN (m.val : Int)).toNat ∧ 0 ≤ hexN (m.val : Int) := by decide
end Go.Q
namespace Go.Proofs.YtgffhiopbnkjbaaGreatDoor
open Go Go.RowKit Go.Q
set_option linter.unusedSimpArgs false

theorem hexL_index (m : Nat) (h : m < 16) (w : World) : (Instr.index 9 (.string ⟨#[48, 49, 50, 51, 52, 53, 54, 55, 56, 57, 97, 98, 99, 100, 101, 102]⟩) (.int .u8 m)).run Tryz.prog w = .ok (.int .u8 (hexN (m : Int))) w := by
  have hsz : (ByteArray.mk #[48, 49, 50, 51, 52, 53, 54, 55, 56, 57, 97, 98, 99, 100, 101, 102]).size = 16 := rfl
  rw [run_index_string w 9 _ .u8 m Tryz.underlying9, dif_pos ⟨by omega, by rw [hsz]; omega⟩]
  have h1 := hexL_fin ⟨m, h⟩
  have h2 := hexN_fin ⟨m, h⟩
  simp only at h1 h2
  obtain ⟨hl, he⟩ := List.getElem?_eq_some_iff.1 h1
  have h3 : ((UInt8.ofNat (hexN (m : Int)).toNat).toNat : Int) = hexN (m : Int) := by omega
  rw [← h3, ← he]
  simp [ByteArray.getElem_eq_getElem_data]

set_option maxRecDepth 20000 in
set_option maxHeartbeats 2000000 in
theorem r01Hex_any (v : Value) (l : List UInt8) (w : World) (h : Bytes w v l) (hl : l.length ≤ 109951162) :
    Calls Tryz.prog 122 #[v] w fun e w' => e = .returned (str (hexS l)) ∧ Fr (fun _ => False) w w' := by
  obtain ⟨a, cap, rfl, -, -, hx⟩ := h.form
  have HX := Lib.hid hx
  obtain ⟨R, hR⟩ : ∃ R, R = hexS l := ⟨_, rfl⟩
  rw [← hR]
  have HR := Lib.hid hR
  clear h hx hR
  go_enter Tryz.func122, Tryz.ntmps122
  go_wp2_with fail
  go_loopg [3, 4] l.length (fun g s i wr => ∃ (j L : Nat) (a1 : Option Addr) (c1 : Nat), g = l.length - j ∧ j ≤ l.length ∧ s = .slice a1 L c1 ∧ i = .int .i64 j ∧ L = (hexS (l.take j)).length ∧ wr.ownsRow w.heap.size 5 1 (.slice a1 L c1) L (Lib.byteCells (hexS (l.take j))) ∧ Fr (fun _ => False) w wr)
  case atStart => exact ⟨0, 0, none, 0, rfl, Nat.zero_le _, rfl, rfl, rfl, ⟨rfl, .inl ⟨rfl, rfl⟩⟩, Fr.refl _⟩
  case round =>
    obtain ⟨j, L, a1, c1, hg, hj, rfl, rfl, hL, hO, F⟩ := hrel
    have HG := Lib.hid hg
    have HL := Lib.hid hL
    have HO := Lib.hid hO
    have HF := Lib.hid F
    have hLl : L ≤ 300000000 := by rw [hL, hexS_len, List.length_take]; omega
    clear hg hL hO
    by_cases hjl : j < l.length
    · obtain ⟨b, off, rfl, hy⟩ := HX.out (by omega)
      obtain ⟨x, hxj⟩ : ∃ x, l[j]? = some x := ⟨_, List.getElem?_eq_getElem hjl⟩
      have ex := F.cell (hy j x hxj) (fun h => h)
      have HT := Lib.hid (hexS_take hxj)
      have hx256 := x.toNat_lt
      obtain ⟨y, hyx⟩ : ∃ y, y = x.toNat := ⟨_, rfl⟩
      rw [← hyx] at ex hx256
      obtain ⟨q, hq⟩ : ∃ q, q = y / 16 := ⟨_, rfl⟩
      obtain ⟨r, hr⟩ : ∃ r, r = y % 16 := ⟨_, rfl⟩
      have hq16 : q < 16 := by omega
      have hr16 : r < 16 := by omega
      have hqi : (y : Int) / 16 = (q : Int) := by omega
      have hri : (y : Int) % 16 = (r : Int) := by omega
      have hh : hex1 x = [UInt8.ofNat (hexN (q : Int)).toNat, UInt8.ofNat (hexN (r : Int)).toNat] := by
        unfold hex1
        rw [← hyx, hqi, ← hr]
      have i1 := hexL_index q hq16
      have i2 := hexL_index r hr16
      have k1 := hexN_fin ⟨q, hq16⟩
      have k2 := hexN_fin ⟨r, hr16⟩
      simp only at k1 k2
      generalize hexN (q : Int) = d1 at *
      generalize hexN (r : Int) = d2 at *
      have FD : Fr (fun _ => False) wr wr.drew := (Fr.refl wr).drew
      have hsrc : Bytes (wr.drew.alloc (.cells #[.int .u8 d1, .int .u8 d2] 5)) (.slice (some ⟨wr.drew.heap.size, 0, none⟩) 2 2) [UInt8.ofNat d1.toNat, UInt8.ofNat d2.toNat] := by
        have BX := Blk.new wr.drew 5 #[.int .u8 d1, .int .u8 d2]
        have e1 : ((UInt8.ofNat d1.toNat).toNat : Int) = d1 := by omega
        have e2 : ((UInt8.ofNat d2.toNat).toNat : Int) = d2 := by omega
        have ec : (#[.int .u8 d1, .int .u8 d2] : Array Value) = (Lib.byteCells [UInt8.ofNat d1.toNat, UInt8.ofNat d2.toNat]).toArray := by
          simp only [Lib.byteCells, List.map_cons, List.map_nil, e1, e2]
        have BX' : Blk (wr.drew.alloc (.cells #[.int .u8 d1, .int .u8 d2] 5)) wr.drew.heap.size 5 (Lib.byteCells [UInt8.ofNat d1.toNat, UInt8.ofNat d2.toNat]).toArray := by rw [← ec]; exact BX
        exact Vals.of_block BX' (by simp [Lib.byteCells]; unfold maxLen; omega)
      have F3 : Fr (fun _ => False) wr.drew (wr.drew.alloc (.cells #[.int .u8 d1, .int .u8 d2] 5)) := (Fr.refl wr.drew).alloc _
      obtain ⟨v4, w4, hr4, ho4, F4, _⟩ := append_bytes (ownsRow_fr (ownsRow_fr HO.out FD (fun _ _ h => h)) F3 (fun _ _ h => h)) (some ⟨wr.drew.heap.size, 0, none⟩) 2 2 _ hsrc (by omega) (Nat.le_trans (F.trans FD).size F3.size)
      have hvb := (Vals.of_own HO.out).2
      have HF4 := Lib.hid (((F.trans FD).trans F3).trans' F4 (fun i hi e => by have := hvb i e; omega))
      obtain ⟨a4, m4, c4, rfl, rfl⟩ := own_shape ho4
      have hT2 := HT.out
      rw [hh] at hT2
      rw [← hT2] at ho4
      have HO4 := Lib.hid ho4
      have HRUN := Lib.hid hr4
      have HT2 := Lib.hid hT2
      have q1 : (0 : Int) ≤ (j : Int) := by omega
      have q2 : (j : Int) < (l.length : Int) := by omega
      have hti : (y : Int).tmod 16 = (r : Int) := by rw [Int.tmod_eq_emod_of_nonneg (by omega)]; exact hri
      have w1 : IntKind.u8.wrap (q : Int) = (q : Int) := by simp [IntKind.wrap, IntKind.signed, IntKind.bits]; omega
      have w2 : IntKind.u8.wrap (r : Int) = (r : Int) := by simp [IntKind.wrap, IntKind.signed, IntKind.bits]; omega
      clear hy hxj hyx hq hr hh FD k1 k2 hsrc F3 hr4 ho4 F4 hvb hT2 HT F
      go_upto_region 5 with fail
      go_region_law (first | (refine step_append_run (by rfl) (.tmp 11) (.tmp 24) 23 (by rfl) _ w4 (by exact HRUN.out) ?_) | fail)
      all_goals
        go_wp2_with fail
        go_roundg (l.length - (j + 1))
        case measure => rw [HG.out]; omega
        case rel => exact ⟨j + 1, L + 2, a4, c4, rfl, by omega, rfl, by go_num, by rw [HT2.out, List.length_append, ← HL.out]; rfl, HO4.out, HF4.out⟩
    · obtain rfl : j = l.length := by omega
      have q2 : ¬ (l.length : Int) < (l.length : Int) := by omega
      have hO2 := HO.out
      have hL2 := HL.out
      rw [List.take_length, ← HR.out] at hO2 hL2
      have hb := (Vals.of_own hO2).1
      have hcv := str_of hb
      clear hb hO2 hL2
      go_wp2_with fail
      go_ret
      exact ⟨rfl, HF.out⟩
end Go.Proofs.YtgffhiopbnkjbaaGreatDoor

namespace Go.Q
open Go Go.RowKit
theorem textRead_err {l : List UInt8} {e : Int} (h : textReadS l = .error e) : e ≠ 0 := by
  unfold textReadS at h
  split at h
  · rename_i e' he
    cases h
    exact Go.Proofs.YtgffhiopbnkjbaaGreatDoor.readS_err he
  · split at h
    · cases h; decide
    · split at h
      · cases h; decide
      · split at h
        · cases h
        · cases h; decide
theorem oid_arcs {o : List Int} (ho : oidOk o = true) : ∀ n ∈ o, 0 ≤ n ∧ n ≤ 2147483647 := by
  intro n hn
  simp only [oidOk, Bool.and_eq_true, decide_eq_true_eq] at ho
  have := List.all_eq_true.1 ho.1.2 n hn
  simp only [arcOk, decide_eq_true_eq] at this
  omega
end Go.Q
namespace Go.Proofs.YtgffhiopbnkjbaaGreatDoor
open Go Go.RowKit Go.Q
set_option linter.unusedSimpArgs false

set_option maxRecDepth 20000 in
set_option maxHeartbeats 1000000 in
theorem r14Text_any (v : Value) (b : List UInt8) (w : World) (h : Bytes w v b) (hl : b.length ≤ 16777216) :
    Calls Tryz.prog 27 #[v] w fun e w' => WordsOut w' b e ∧ Fr (fun _ => False) w w' := by
  obtain ⟨a, cap, rfl, -⟩ := h.form
  obtain ⟨z, hz⟩ : ∃ z, z = w.heap.size := ⟨_, rfl⟩
  have BZ := Blk.new w 25 #[.int .i64 0, .slice none 0 0]
  have F0 : Fr (fun _ => False) w (w.alloc (.cells #[.int .i64 0, .slice none 0 0] 25)) := (Fr.refl w).alloc _
  rw [← hz] at BZ
  have hzw : ∀ k, k < w.heap.size → k = z → False := fun k hk e => by omega
  have HZ := Lib.hid hz
  have hT := r06Read_any _ b 0 w _ h F0 (by omega) hl
  unfold RTextOut at hT
  rw [List.drop_zero] at hT
  have HT := Lib.hid hT
  have HF0 := Lib.hid F0
  have HZW := Lib.hid hzw
  clear h hz F0 hzw hT
  go_enter Tryz.func27, Tryz.ntmps27
  go_upto_region 1 with fail
  rw [← HZ.out]
  generalize (w.alloc (.cells #[.int .i64 0, .slice none 0 0] 25)) = w0 at *
  go_wp2_with fail
  refine HT.out.mono ?_
  rintro e w1 ⟨hout, F⟩
  replace BZ := BZ.fr F (fun h => h)
  have HF := Lib.hid (HF0.out.trans F)
  clear F HF0 HT
  cases hr : textReadS b with
  | error x =>
    rw [hr] at hout
    subst hout
    have hx := textRead_err hr
    have hx1 : (x == 0) = false := beq_eq_false_iff_ne.2 hx
    have HRR := Lib.hid hr
    go_upto_region 2 with fail
    have BZ4 := BZ.alloc (.cells #[.int .i64 0, .slice none 0 0] 25)
    have BY4 := Blk.new w1 25 #[.int .i64 0, .slice none 0 0]
    have F4 : Fr (fun _ => False) w1 (w1.alloc (.cells #[.int .i64 0, .slice none 0 0] 25)) := (Fr.refl w1).alloc _
    obtain ⟨y, hy⟩ : ∃ y, y = w1.heap.size := ⟨_, rfl⟩
    rw [← hy] at BY4 ⊢
    clear hy
    generalize (w1.alloc (.cells #[.int .i64 0, .slice none 0 0] 25)) = w4 at *
    have y0 := BY4.cell 0
    have y1 := BY4.cell 1
    simp only [List.getElem?_toArray, List.getElem?_cons_succ, List.getElem?_cons_zero] at y0 y1
    have SZ := BZ4.cell
    have ZZ := BZ4.frozen
    obtain ⟨BZ5, F5⟩ := set2 BZ4 (.int .i64 0) (.slice none 0 0)
    have n0 := BZ5.cell 0
    have n1 := BZ5.cell 1
    simp only [List.getElem?_toArray, List.getElem?_cons_succ, List.getElem?_cons_zero] at n0 n1
    have HF5 := Lib.hid ((HF.out.trans F4).trans' F5 HZW.out)
    clear hr F4 BZ BZ4 BZ5 F5 BY4 hx
    go_wp2_with fail
    refine bodyPost_ret (v := .tuple #[.agg #[.int .i64 0, .slice none 0 0], .bool false]) (by simp [results, Tryz.results27, go_sem, n0, n1]) rfl ⟨?_, HF5.out⟩
    unfold WordsOut
    rw [HRR.out]
  | ok kbn =>
    obtain ⟨k, t, n⟩ := kbn
    rw [hr] at hout
    obtain ⟨u, rfl, hu⟩ := hout
    have HRR := Lib.hid hr
    obtain ⟨au, cu, rfl, -⟩ := hu.form
    go_upto_region 2 with fail
    have BZ4 := BZ.alloc (.cells #[.int .i64 k, .slice au t.length cu] 25)
    have BY4 := Blk.new w1 25 #[.int .i64 k, .slice au t.length cu]
    have F4 : Fr (fun _ => False) w1 (w1.alloc (.cells #[.int .i64 k, .slice au t.length cu] 25)) := (Fr.refl w1).alloc _
    obtain ⟨y, hy⟩ : ∃ y, y = w1.heap.size := ⟨_, rfl⟩
    rw [← hy] at BY4 ⊢
    clear hy
    generalize (w1.alloc (.cells #[.int .i64 k, .slice au t.length cu] 25)) = w4 at *
    have y0 := BY4.cell 0
    have y1 := BY4.cell 1
    simp only [List.getElem?_toArray, List.getElem?_cons_succ, List.getElem?_cons_zero] at y0 y1
    have SZ := BZ4.cell
    have ZZ := BZ4.frozen
    obtain ⟨BZ5, F5⟩ := set2 BZ4 (.int .i64 k) (.slice au t.length cu)
    have n0 := BZ5.cell 0
    have n1 := BZ5.cell 1
    simp only [List.getElem?_toArray, List.getElem?_cons_succ, List.getElem?_cons_zero] at n0 n1
    have HF5 := Lib.hid ((HF.out.trans F4).trans' F5 HZW.out)
    have HB := Lib.hid (hu.old HF5.out)
    clear hr F4 BZ BZ4 BZ5 F5 BY4 hu
    go_wp2_with fail
    refine bodyPost_ret (v := .tuple #[.agg #[.int .i64 k, .slice au t.length cu], .bool true]) (by simp [results, Tryz.results27, go_sem, n0, n1]) rfl ⟨?_, HF5.out⟩
    unfold WordsOut
    rw [HRR.out]
    exact ⟨_, rfl, HB.out⟩

set_option maxRecDepth 20000 in
set_option maxHeartbeats 1000000 in
theorem r14partKey_any (x y : Value) (o : List Int) (b : List UInt8) (w : World) (hx : Ints w x o) (hy : Bytes w y b) (ho : oidOk o = true) (hl : b.length ≤ 10000000) :
    Calls Tryz.prog 83 #[.agg #[x, y]] w fun e w' => e = .returned (str (attrKeyS o b)) ∧ Fr (fun _ => False) w w' := by
  obtain ⟨ax, cx, rfl, -⟩ := Ints.form hx
  obtain ⟨ay, cy, rfl, -⟩ := Vals.form hy
  obtain ⟨z, hz⟩ : ∃ z, z = w.heap.size := ⟨_, rfl⟩
  have BZ := Blk.new w 63 #[.slice ax o.length cx, .slice ay b.length cy]
  have F0 : Fr (fun _ => False) w (w.alloc (.cells #[.slice ax o.length cx, .slice ay b.length cy] 63)) := (Fr.refl w).alloc _
  have HT := Lib.hid (r04Text_any _ o _ (hx.old F0) (oid_arcs ho) (by have := (nums_ok ho).2.1; omega))
  have HY := Lib.hid (hy.old F0)
  rw [← hz] at BZ
  have HF0 := Lib.hid F0
  have HZ := Lib.hid hz
  have hk : attrKeyS o b = oidTextS o ++ (match textReadS b with | .ok (k, t, _) => [61, 116] ++ hexS (foldKeyS k t) | .error _ => [61, 98] ++ hexS b) := rfl
  have HK := Lib.hid hk
  have ho0 := Lib.hid ho
  clear hx hy F0 hz ho hk
  have hol : o.length ≤ 32 := (nums_ok ho0.out).2.1
  have hot : (oidTextS o).length ≤ 1000 := by
    have hall := ho0.out
    simp only [oidOk, Bool.and_eq_true, decide_eq_true_eq] at hall
    have := oidText_len (o := o) (fun n hn => by
      have := List.all_eq_true.1 hall.1.2 n hn
      simp only [arcOk, decide_eq_true_eq] at this
      omega)
    omega
  have hos : (ByteArray.mk (oidTextS o).toArray).size = (oidTextS o).length := by simp [ByteArray.size]
  generalize oidTextS o = ot at *
  go_enter Tryz.func83, Tryz.ntmps83
  go_upto_region 1 with fail
  rw [← HZ.out]
  generalize (w.alloc (.cells #[.slice ax o.length cx, .slice ay b.length cy] 63)) = w0 at *
  have z0 := BZ.cell 0
  simp at z0
  go_wp2_with fail
  refine HT.out.mono ?_
  rintro e w1 ⟨rfl, F1⟩
  have BZ1 := BZ.fr F1 (fun h => h)
  have z1 := BZ1.cell 1
  simp at z1
  have HY1 := Lib.hid (HY.out.old F1)
  have HF1 := Lib.hid (HF0.out.trans F1)
  clear HT HY HF0 F1 z0 BZ
  go_wp2_with fail
  refine (r14Text_any _ b w1 HY1.out (by omega)).mono ?_
  rintro e w2 ⟨hout, F2⟩
  have BZ2 := BZ1.fr F2 (fun h => h)
  have HY2 := Lib.hid (HY1.out.old F2)
  have HF2 := Lib.hid (HF1.out.trans F2)
  unfold WordsOut at hout
  clear HY1 HF1 F2 z1 BZ1
  cases hr : textReadS b with
  | error x =>
    rw [hr] at hout
    subst hout
    have F3 : Fr (fun _ => False) w2 (w2.alloc (.cells #[.int .i64 0, .slice none 0 0] 25)) := (Fr.refl w2).alloc _
    have BZ3 := BZ2.fr F3 (fun h => h)
    have z1 := BZ3.cell 1
    simp only [List.getElem?_toArray, List.getElem?_cons_succ, List.getElem?_cons_zero] at z1
    have HX := Lib.hid (r01Hex_any _ b _ (HY2.out.old F3) (by omega))
    have HF3 := Lib.hid (HF2.out.trans F3)
    have hkk := HK.out
    rw [hr] at hkk
    have HKK := Lib.hid hkk
    have hhl := hexS_len b
    have hhs : (ByteArray.mk (hexS b).toArray).size = (hexS b).length := by simp [ByteArray.size]
    clear hr hkk HY2 HF2 F3 BZ2 BZ3
    generalize hexS b = hb at *
    go_wp2_with fail
    refine HX.out.mono ?_
    rintro e w4 ⟨rfl, F4⟩
    go_wp2_with fail
    go_ret
    refine ⟨congrArg (fun x : ByteArray => Ending.returned (.string x)) ?_, HF3.out.trans F4⟩
    rw [HKK.out, show ot ++ ([61, 98] ++ hb) = ((ot ++ [61]) ++ [98]) ++ hb from by simp, ← ba_cat, ← ba_cat, ← ba_cat]
  | ok kbn =>
    obtain ⟨k, t, n⟩ := kbn
    rw [hr] at hout
    obtain ⟨u, rfl, hu⟩ := hout
    obtain ⟨hrt, htl⟩ := textRead_ok hr
    obtain ⟨au, cu, rfl, -⟩ := hu.form
    have F3 : Fr (fun _ => False) w2 (w2.alloc (.cells #[.int .i64 k, .slice au t.length cu] 25)) := (Fr.refl w2).alloc _
    have HX := Lib.hid (r13Key_any k _ t _ (hu.old F3) hrt (by omega))
    have HF3 := Lib.hid (HF2.out.trans F3)
    have hkk := HK.out
    rw [hr] at hkk
    simp only at hkk
    have HKK := Lib.hid hkk
    have hfl := foldKey_len k t
    clear hr hkk HY2 HF2 F3 BZ2 hu hrt
    generalize foldKeyS k t = fk at *
    go_upto_region 4 with fail
    have BY := Blk.new w2 25 #[.int .i64 k, .slice au t.length cu]
    obtain ⟨y, hy⟩ : ∃ y, y = w2.heap.size := ⟨_, rfl⟩
    rw [← hy] at BY ⊢
    clear hy
    generalize (w2.alloc (.cells #[.int .i64 k, .slice au t.length cu] 25)) = w3 at *
    have y0 := BY.cell 0
    have y1 := BY.cell 1
    simp only [List.getElem?_toArray, List.getElem?_cons_succ, List.getElem?_cons_zero] at y0 y1
    go_wp2_with fail
    refine HX.out.mono ?_
    rintro e w4 ⟨rfl, F4⟩
    obtain ⟨cp, wc, hcv, hbv, FC, -⟩ := bytes_of_str w4 fk (by omega)
    have HXX := Lib.hid (r01Hex_any _ fk wc hbv (by omega))
    have HF4 := Lib.hid ((HF3.out.trans F4).trans FC)
    have hhl := hexS_len fk
    have hhs : (ByteArray.mk (hexS fk).toArray).size = (hexS fk).length := by simp [ByteArray.size]
    clear HX HF3 F4 hbv FC BY y0 y1
    generalize hexS fk = hb at *
    go_wp2_with fail
    refine HXX.out.mono ?_
    rintro e w5 ⟨rfl, F5⟩
    go_wp2_with fail
    go_ret
    refine ⟨congrArg (fun x : ByteArray => Ending.returned (.string x)) ?_, HF4.out.trans F5⟩
    rw [HKK.out, show ot ++ ([61, 116] ++ hb) = ((ot ++ [61]) ++ [116]) ++ hb from by simp, ← ba_cat, ← ba_cat, ← ba_cat]
end Go.Proofs.YtgffhiopbnkjbaaGreatDoor

namespace Go.Q
open Go Go.RowKit
/-- Texts, cut. -/
def cutTexts (l : List (List UInt8)) : List (List UInt8) := (l.take 70).map (·.take 100)
theorem cutTexts_len (l : List (List UInt8)) : (cutTexts l).length ≤ 70 ∧ ∀ k ∈ cutTexts l, k.length ≤ 100 := by
  refine ⟨by unfold cutTexts; rw [List.length_map, List.length_take]; omega, fun k hk => ?_⟩
  obtain ⟨s, -, rfl⟩ := List.mem_map.1 hk
  rw [List.length_take]
  omega
theorem oid_empty : nameOk [] = true := rfl
theorem rdn_one {p : Part} (h : (attrS p.o p.b).isSome = true) : (rdnS [p]).isSome = true := by
  obtain ⟨x, hx⟩ := Option.isSome_iff_exists.1 h
  unfold rdnS
  rw [if_neg (by simp)]
  simp only [stepsS, hx]
  rfl
theorem fromText_ok {l : List UInt8} {o : List Int} (h : fromTextS l = .ok o) : oidOk o = true := by
  unfold fromTextS at h
  split at h
  · cases h
  · split at h
    · cases h; assumption
    · cases h
theorem step_some {s : List UInt8} {p : Part} (h : stepS s = some p) : oidOk p.o = true ∧ ∃ v, p.b = leastWhole v ∧ v.length ≤ s.length := by
  unfold stepS at h
  split at h
  · cases h
  · split at h
    · cases h
    · rename_i o ho
      cases h
      exact ⟨fromText_ok ho, _, rfl, (cut1_len 61 s).2⟩
theorem stepsOf_mem : ∀ {ks : List (List UInt8)} {n : List (List Part)}, stepsOfS ks = some n → ∀ r ∈ n, ∃ s ∈ ks, ∃ p, stepS s = some p ∧ r = [p]
  | [], n, h, r, hr => by
    simp only [stepsOfS, Option.some.injEq] at h
    subst h
    cases hr
  | s :: t, n, h, r, hr => by
    unfold stepsOfS at h
    split at h
    · cases h
    · rename_i p hp
      cases ht : stepsOfS t with
      | none => rw [ht] at h; cases h
      | some m =>
        rw [ht] at h
        simp only [Option.map_some, Option.some.injEq] at h
        subst h
        rcases List.mem_cons.1 hr with rfl | hm
        · exact ⟨s, by simp, p, hp, rfl⟩
        · obtain ⟨s', h1, h2⟩ := stepsOf_mem ht r hm
          exact ⟨s', by simp [h1], h2⟩
theorem nameOf_parts {ks : List (List UInt8)} {n : List (List Part)} (h : nameOfS ks = .ok n) : stepsOfS ks = some n ∧ n.length ≤ 64 := by
  unfold nameOfS at h
  split at h
  · cases h
  · split at h
    · cases h
    · cases h
      exact ⟨by assumption, by omega⟩
theorem leastWhole_len (v : List UInt8) : (leastWhole v).length ≤ v.length + 6 := by
  have := wrap_len (tagOf (leastK v)) v
  have h2 : (lenBytes v.length).length ≤ 5 := by unfold lenBytes; (repeat' split) <;> simp
  show (wrapS (tagOf (leastK v)) v).length ≤ v.length + 6
  omega
theorem nameOf_ok {ks : List (List UInt8)} {n : List (List Part)} (h : nameOfS ks = .ok n) (hk : ∀ k ∈ ks, k.length ≤ 100) : nameOk n = true ∧ ∀ r ∈ n, fewB r ∧ r.length ≤ 1 := by
  obtain ⟨h1, h2⟩ := nameOf_parts h
  have hm : ∀ r ∈ n, (rdnS r).isSome = true ∧ fewB r ∧ r.length ≤ 1 := fun r hr => by
    obtain ⟨s, hs, p, hp, rfl⟩ := stepsOf_mem h1 r hr
    obtain ⟨g1, v, g2, g3⟩ := step_some hp
    have hsl := hk s hs
    have hvl := leastWhole_len v
    refine ⟨rdn_one (by rw [g2]; exact attr_some g1 (right_kind (least_right v)) (by omega)), fun q hq => ?_, by simp⟩
    · rw [List.mem_singleton.1 hq, g2]
      omega
  unfold nameOk
  rw [Bool.and_eq_true]
  exact ⟨⟨decide_eq_true h2, List.all_eq_true.2 fun r hr => (hm r hr).1⟩, fun r hr => (hm r hr).2⟩
theorem under_add {n m : List (List Part)} (h : nameOk (n ++ m) = true) : underS (n ++ m) n = true := by
  have h1 := nameOk_take h n.length
  rw [List.take_left] at h1
  unfold underS
  rw [h, List.take_left, nameSame_self, h1, decide_eq_true (by rw [List.length_append]; omega)]
  rfl
/-- The texts of a type. -/
def wantS (n : List (List Part)) (ks : List Int) : List (List UInt8) := n.flatten.filterMap (partTextS ks)
theorem texts_want {n : List (List Part)} (h : nameOk n = true) (ks : List Int) : textsS n ks = wantS n ks := if_pos h
theorem part_none {ks : List Int} {p : Part} {x : Int} (h : textReadS p.b = .error x) : partTextS ks p = none := by
  unfold partTextS
  rw [h]
  split <;> rfl
theorem part_yes {ks : List Int} {p : Part} {k : Int} {t : List UInt8} {n : Nat} (h : textReadS p.b = .ok (k, t, n)) (hk : ks = [] ∨ ks = p.o) : partTextS ks p = some (utf8S k t) := by
  unfold partTextS
  rw [h, if_neg (by rcases hk with h | h <;> simp [h])]
theorem part_no {ks : List Int} {p : Part} (hk : ks ≠ []) (hk2 : ks ≠ p.o) : partTextS ks p = none := by
  unfold partTextS
  exact if_pos ⟨hk, fun e => hk2 e.symm⟩
theorem want_next {r : List Part} {k : Nat} {p : Part} (pre : List Part) (ks : List Int) (h : r[k]? = some p) : (pre ++ r.take (k + 1)).filterMap (partTextS ks) = (pre ++ r.take k).filterMap (partTextS ks) ++ (partTextS ks p).toList := by
  rw [List.take_add_one, h, ← List.append_assoc, List.filterMap_append]
  cases hp : partTextS ks p <;> simp [hp]
theorem want_step {n : List (List Part)} {i : Nat} {r : List Part} (ks : List Int) (h : n[i]? = some r) : (n.take (i + 1)).flatten.filterMap (partTextS ks) = ((n.take i).flatten ++ r.take r.length).filterMap (partTextS ks) := by
  rw [List.take_add_one, h, List.take_length]
  simp
end Go.Q

namespace Go.Proofs.YtgffhiopbnkjbaaGreatDoor
open Go Go.RowKit Go.Q

set_option maxRecDepth 20000 in
set_option maxHeartbeats 2000000 in
theorem nmKnown_any (w : World) (hE : Env w) :
    Calls Tryz.prog 12 #[] w fun e w' => e = .returned (.bool true) ∧ Fr (fun _ => False) w w' := by
  have HE := Lib.hid hE
  have strs2 : ∀ (W : World) (x y : List UInt8), Strs (W.alloc (.cells #[str x, str y] 9)) (.slice (some ⟨W.heap.size, 0, none⟩) 2 2) [x, y] := fun W x y => Vals.of_block (Blk.new W 9 #[str x, str y]) (by unfold maxLen; simp)
  have few2 : ∀ x y : List UInt8, x.length ≤ 10000000 → y.length ≤ 10000000 → ∀ k ∈ [x, y], k.length ≤ 10000000 := fun x y hx hy k hk => by
    rcases List.mem_cons.1 hk with rfl | hk
    · exact hx
    · rw [List.mem_singleton.1 hk]; exact hy
  have HS2 := Lib.hid strs2
  have HF2 := Lib.hid few2
  clear hE strs2 few2
  go_enter Tryz.func12, Tryz.ntmps12
  go_wp2_with fail
  have G1 : Fr (fun _ => False) w (w.alloc (.cells #[str knT1, str knT2] 9)) := (Fr.refl w).alloc _
  refine (nameOf_any _ [knT1, knT2] _ (HS2.out w knT1 knT2) (HE.out.old G1) (HF2.out knT1 knT2 (by decide) (by decide)) (by simp)).mono ?_
  rintro e w1 ⟨hout, F1⟩
  unfold NameOfOut at hout
  rw [knA_of] at hout
  obtain ⟨vA, rfl, hA⟩ := hout
  have hAt := hA.at
  obtain ⟨aA, cA, rfl⟩ := hA.shape
  have hcA : 2 ≤ cA := by
    obtain ⟨a0, c0, he, h1, _⟩ := hAt
    simp only [Value.slice.injEq] at he
    obtain ⟨-, -, rfl⟩ := he
    exact h1
  have hmA : cA ≤ maxLen := by
    obtain ⟨a0, c0, he, _, h1, _⟩ := hAt
    simp only [Value.slice.injEq] at he
    obtain ⟨-, -, rfl⟩ := he
    exact h1
  rw [show knA.length = 2 from rfl] at *
  have HA := Lib.hid hAt
  have HG1 := Lib.hid (G1.trans F1)
  have HMA := Lib.hid hmA
  clear hA hAt F1 G1 hmA
  go_wp2_with fail
  have G2 : Fr (fun _ => False) w1 (w1.alloc (.cells #[str knT3, str knT4] 9)) := (Fr.refl w1).alloc _
  refine (nameOf_any _ [knT3, knT4] _ (HS2.out w1 knT3 knT4) ((HE.out.old HG1.out).old G2) (HF2.out knT3 knT4 (by decide) (by decide)) (by simp)).mono ?_
  rintro e w2 ⟨hout, F2⟩
  unfold NameOfOut at hout
  rw [knB_of] at hout
  obtain ⟨vB, rfl, hB⟩ := hout
  have hBt := hB.at
  obtain ⟨aB, cB, rfl⟩ := hB.shape
  rw [show knB.length = 2 from rfl] at *
  have HA2 := Lib.hid (HA.out.old (G2.trans F2))
  have HB2 := Lib.hid hBt
  have HG2 := Lib.hid ((HG1.out.trans G2).trans F2)
  clear hB hBt F2 G2 HA HG1
  go_wp2_with fail
  have G3 : Fr (fun _ => False) w2 (w2.alloc (.cells #[.int .i64 2, .int .i64 5, .int .i64 4, .int .i64 3] 3)) := (Fr.refl w2).alloc _
  have hI : Ints (w2.alloc (.cells #[.int .i64 2, .int .i64 5, .int .i64 4, .int .i64 3] 3)) (.slice (some ⟨w2.heap.size, 0, none⟩) 4 4) [2, 5, 4, 3] := Vals.of_block (Blk.new w2 3 #[.int .i64 2, .int .i64 5, .int .i64 4, .int .i64 3]) (by unfold maxLen; simp)
  refine (texts_any _ _ knA [2, 5, 4, 3] _ (HA2.out.old G3) hI kn_few ((HE.out.old HG2.out).old G3)).mono ?_
  rintro e w3 ⟨⟨x, rfl, hx⟩, F3⟩
  rw [kn_texts] at hx
  obtain ⟨ax, cx, rfl, -, -, hy⟩ := hx.form
  obtain ⟨bx, ox, rfl, hz⟩ := hy (by simp)
  have ex := hz 0 _ rfl
  simp only [Nat.add_zero] at ex
  simp only [List.length_cons, List.length_nil, Nat.zero_add] at *
  have HA3 := Lib.hid (HA2.out.old (G3.trans F3))
  have HB3 := Lib.hid (HB2.out.old (G3.trans F3))
  have HG3 := Lib.hid ((HG2.out.trans G3).trans F3)
  have HEX := Lib.hid ex
  clear hx hy hz hI F3 G3 HA2 HB2 HG2
  have HC1 := Lib.hid (nameSame_any _ _ knA knB w3 HA3.out HB3.out kn_few kn_fewB (HE.out.old HG3.out))
  rw [kn_same] at HC1
  go_wp2_with fail
  refine HC1.out.mono ?_
  rintro e w4 ⟨rfl, F4⟩
  have ex4 := F4.cell HEX.out (fun h => h)
  have hq1 : (([67, 65] : List UInt8) == [67, 65]) = true := rfl
  have r1 : (1 : Int) ≤ (cA : Int) := by omega
  have HA4 := Lib.hid (HA3.out.old F4)
  have HC2 := Lib.hid (nameSame_any _ _ knA (knA.take 1) w4 HA4.out (NameAt.take HA4.out 1 (by decide) cA (by omega) HMA.out) kn_few (fun r hr => kn_few r (List.mem_of_mem_take hr)) (HE.out.old (HG3.out.trans F4)))
  rw [kn_front] at HC2
  have HG4 := Lib.hid (HG3.out.trans F4)
  clear F4 ex HC1
  go_wp2_with fail
  refine HC2.out.mono ?_
  rintro e w5 ⟨rfl, F5⟩
  go_wp2_with fail
  go_ret
  exact ⟨rfl, HG4.out.trans F5⟩
end Go.Proofs.YtgffhiopbnkjbaaGreatDoor
