/-
  The walk of the cache's Keys: the keys, from the one that wasn't used the longest on.
-/
import Derived.Test.YtjcjebmlibllbaaCaEach
import Derived.Deep.AppendLies
import Derived.Deep.RegionLaw
namespace Go.Q
open Go Go.RowKit
theorem Fr.of_grown {w w' : World} {row : Option Nat} (h : w.grownBy w' row) : Fr (fun k => row = some k) w w' :=
  ⟨h.os, h.tape, h.output, h.size, fun k hk hS => h.block k hk (fun e => hS e.symm)⟩
theorem ownsRow_fr {S : Nat → Prop} {w w' : World} {base : Nat} {e : TypeId} {size : Nat} {v : Value} {n : Nat} {xs : List Value} (h : w.ownsRow base e size v n xs) (f : Fr S w w') (hS : ∀ k, v.ownBlock = some k → ¬ S k) : w'.ownsRow base e size v n xs := by
  obtain ⟨h1, h2⟩ := h
  refine ⟨h1, ?_⟩
  rcases h2 with h2 | ⟨g, cap, cur, rfl, hg, hh, r⟩
  · exact .inl h2
  · exact .inr ⟨g, cap, cur, rfl, hg, (f.block g (Array.getElem?_eq_some_iff.1 hh).1 (hS g rfl)).trans hh, r⟩
end Go.Q
namespace Go.Proofs.Ytjcjebmlibllbaa
open Go Go.RowKit Go.Q

theorem calls_fn {P : Program} {N : Nat} {fn : Func} (h : P.funcs[N]? = some fn) (h1 : (fn.name == "runtime.NumGoroutine") = false) (h2 : fn.body.isNone = false) (args : Array Value) (w : World) : (callFunc N args).run P w = .ok (.enter N args) w := by
  unfold callFunc
  simp only [Sem.run_bind, run_program, Result.andThen_ok, h, h1, h2, Bool.false_eq_true, if_false]
  rfl

theorem info9 : (Try.prog.info? 9).map (fun i => (i.zero, i.size, i.bytes)) = some (some (.string ⟨#[]⟩), 1, 16) := by kernel_rfl

set_option maxHeartbeats 2000000 in
theorem keys1_any (w : World) (B b cv n : Nat) (sl : Value) (xs : List Value) (key : ByteArray) (hv : Blk w cv 32 #[sl]) (hb : w.cell? ⟨b, 2, none⟩ = some (.string key))
    (hown : w.ownsRow B 9 1 sl n xs) (hB : B ≤ w.heap.size) (hne : ∀ k, sl.ownBlock = some k → k ≠ cv) (hn : n ≤ 10000) :
    Calls Try.prog 30 #[pt b, pt cv] w fun e w' => e = .returned (.tuple #[]) ∧ ∃ sl', Blk w' cv 32 #[sl'] ∧ w'.ownsRow B 9 1 sl' (n + 1) (xs ++ [.string key]) ∧
      Fr (fun k => k = cv ∨ sl.ownBlock = some k) w w' ∧ ∀ k, sl'.ownBlock = some k → k ≠ cv := by
  obtain ⟨i0, hi, hz0, hz1, hz2⟩ := info_parts info9
  have e0 := hv.cell 0
  simp at e0
  have hal := alloc_old
  have lb := World.block_lt_of_cell? w _ hb
  have lc := hv.lt
  simp only at lb
  go_enter Try.func30, Try.ntmps30
  go_wp2_with fail
  have hnews : ∀ j u, [Value.string key][j]? = some u → (w.drew.alloc (.cells #[.string key] 9)).cell? ((⟨w.heap.size, 0, none⟩ : Addr).add j) = some u :=
    World.news_of_block (cs := #[.string key]) (t := 9) (fr := (0, 0)) (Blk.new w.drew 9 #[.string key])
  have h1 : ∀ u ∈ [Value.string key], u.oneCell' = true := by simp [Value.oneCell']
  have h63 : n + 1 ≤ maxLen := by unfold maxLen; omega
  have hbytes : (n + 1) * 16 ≤ 140737488355328 := by omega
  have hown1 : (w.drew.alloc (.cells #[.string key] 9)).ownsRow B 9 1 sl n xs := hown.drew.alloc _
  have hbase : B ≤ (w.drew.alloc (.cells #[.string key] 9)).heap.size := by simp; omega
  have Bx : Blk (w.drew.alloc (.cells #[.string key] 9)) cv 32 #[sl] := hv.drew.alloc _
  have hnb : ∀ w1, (w.drew.alloc (.cells #[.string key] 9)).grownBy w1 sl.ownBlock → Blk w1 cv 32 #[sl] := fun w1 hg => Bx.fr (Fr.of_grown hg) (fun e => hne cv e rfl)
  go_region_law (first
    | (refine step_append_lies _ (by rfl) (.tmp 3) (.tmp 8) 32 (by rfl) B 9 i0 (.string ⟨#[]⟩) 1 16 Try.underlying32 hi hz0 hz1 hz2 rfl (by decide) sl n xs (by rfl) (by exact hown1) ⟨w.heap.size, 0, none⟩ 1 1 [.string key] (by rfl) (by rfl) (by exact hnews) h1 (by decide) h63 hbytes (by exact hbase) _ (by rfl) ?_; intro g cap w1 ho hg hat hlt; have q0 := hnb w1 hg; have q1 := q0.cell 0; have q2 := q0.frozen 0; simp only [List.getElem?_toArray, List.getElem?_cons_zero] at q1))
  all_goals
    go_end0
    have hgc : g ≠ cv := by
      rcases hat with h | h
      · exact hne g h
      · simp only [World.size_drew, World.size_alloc] at h
        omega
    refine ⟨rfl, .slice (some ⟨g, 0, none⟩) (n + 1) cap, q0.set 0 _, ownsRow_fr (S := fun k => k = cv) ho (Fr.setCell (S := fun k => k = cv) (p := ⟨cv, 0, none⟩) (Fr.refl w1) (fun _ => rfl) _) (fun k hk e => ?_), ?_, fun k hk => ?_⟩
    · simp only [Value.ownBlock, Option.some.injEq] at hk
      omega
    · have f1 : Fr (fun _ => False) w (w.alloc (.cells #[.string key] 9)).drew := ((Fr.refl w).alloc _).drew
      have f2 : Fr (fun k => k = cv ∨ sl.ownBlock = some k) w w1 := (f1.mono (fun _ _ h => h.elim)).trans ((Fr.of_grown hg).mono (fun _ _ h => .inr h))
      exact f2.setCell (p := ⟨cv, 0, none⟩) (fun _ => .inl rfl) _
    · simp only [Value.ownBlock, Option.some.injEq] at hk
      omega

/-- The slices' cells of keys. -/
def keyVals (l : List Slot) : List Value := l.map fun s => .string s.key

set_option maxHeartbeats 2000000 in
theorem keys_any (w : World) (c : Nat) (K : Nat → Prop) (room : Int) (L : List Slot) (hA : Away w c K room L) (hL : L.length ≤ 10000) :
    Calls Try.prog 15 #[pt c] w fun e w' => ∃ sl, e = .returned sl ∧ Away w' c K room L ∧ Fr (fun _ => False) w w' ∧ w'.ownsRow w.heap.size 9 1 sl L.length (keyVals L) := by
  obtain ⟨r, m, bs, D, hC, hk, rfl⟩ := hA
  obtain ⟨cv, hcv⟩ : ∃ cv, cv = w.heap.size := ⟨_, rfl⟩
  have F0 : Fr (fun _ => False) w (w.alloc (.cells #[.slice none 0 0] 32)) := (Fr.refl w).alloc _
  have B0 : Blk (w.alloc (.cells #[.slice none 0 0] 32)) cv 32 #[.slice none 0 0] := by rw [hcv]; exact Blk.new w _ _
  have C0 := hC.fr F0 (fun _ _ h => h)
  have hlt := hC.lt
  have key := each_any 30 #[pt cv] (calls_fn Try.func30 (by kernel_rfl) (by kernel_rfl)) c r m room D
    (fun pre rest w1 => CacheAt w1 c r m room (pre ++ rest) D ∧ (pre ++ rest).length = bs.length ∧ pre ++ rest = bs ∧ Fr (fun _ => False) w w1 ∧ ∃ sl, Blk w1 cv 32 #[sl] ∧ w1.ownsRow cv 9 1 sl pre.length (keyVals (pre.map D)) ∧ ∀ k, sl.ownBlock = some k → k ≠ cv)
    (fun pre rest w1 h => h.1)
    (fun pre b rest w1 ⟨h1, h2, h3, h4, sl, h5, h6, h7⟩ => by
      obtain ⟨A, H, R⟩ := h1.ring
      have kb := (R.blk b (by simp)).cell 2
      simp [slotCells] at kb
      have hp : pre.length ≤ 10000 := by
        simp only [List.length_append, List.length_cons, List.length_map] at h2 hL
        omega
      refine (keys1_any w1 cv b cv pre.length sl _ (D b).key h5 kb h6 (by rw [hcv]; exact h4.size) h7 hp).mono ?_
      rintro e w2 ⟨he, sl', g1, g2, g3, g4⟩
      have hge : ∀ k, k < w.heap.size → ¬ (k = cv ∨ sl.ownBlock = some k) := fun k hk h => by
        rcases h with h | h
        · omega
        · rcases h6.2 with ⟨e, _⟩ | ⟨g, _, _, e, hg, _⟩
          · rw [e] at h; simp [Value.ownBlock] at h
          · rw [e] at h
            simp only [Value.ownBlock, Option.some.injEq] at h
            omega
      refine ⟨he, pre ++ [b], ?_, ?_, ?_, ?_, sl', g1, ?_, g4⟩
      · have := h1.fr g3 (fun k hk => hge k (hlt k (by simp only [List.mem_cons] at hk ⊢; rw [h3] at hk; exact hk)))
        simpa using this
      · simpa using h2
      · simpa using h3
      · exact h4.trans' g3 (fun i hi h => hge i hi h)
      · simpa [keyVals] using g2)
    bs _ ⟨C0, rfl, rfl, F0, _, B0, ⟨rfl, .inl ⟨rfl, rfl⟩⟩, by simp [Value.ownBlock]⟩
  have HK := Lib.hid key
  have HCV := Lib.hid hcv
  clear key C0 B0 hlt hcv
  go_enter Try.func15, Try.ntmps15
  go_wp2_with fail
  rw [← HCV.out]
  refine HK.out.mono ?_
  rintro e w2 ⟨rfl, pre, h1, h2, h3, h4, sl, h5, h6, h7⟩
  have q := h5.cell 0
  simp at q
  have h1' : CacheAt w2 c r m room bs D := by simp at h3; rw [← h3]; simpa using h1
  have h6' : w2.ownsRow cv 9 1 sl bs.length (keyVals (bs.map D)) := by simp at h3; rw [← h3]; exact h6
  clear h1 h2 h3 h5 h6 h7 HK
  go_wp2_with fail
  go_ret
  rw [HCV.out] at h6'
  exact ⟨sl, rfl, ⟨r, m, bs, D, h1', hk, rfl⟩, h4, by simpa using h6'⟩
end Go.Proofs.Ytjcjebmlibllbaa
