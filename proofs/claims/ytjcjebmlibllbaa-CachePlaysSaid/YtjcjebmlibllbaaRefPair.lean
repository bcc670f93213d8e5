/-
  A cache and the reference's cache in memory, that share no block; what a call on both of them does.
-/
import Derived.Test.YtjcjebmlibllbaaRefGet
import Derived.Test.YtjcjebmlibllbaaCaTwo
import Derived.Test.YtjcjebmlibllbaaCaAct
namespace Go.Proofs.Ytjcjebmlibllbaa
open Go Go.RowKit Go.Q

theorem RefAt.mono {w : World} {q : Nat} {K K' : Nat → Prop} {room : Int} {L : List Slot} (h : RefAt w q K room L) (hK : ∀ k, K' k → K k) : RefAt w q K' room L := by
  obtain ⟨sl, B, hown, hq, hsl⟩ := h
  exact ⟨sl, B, hown, fun h => hq (hK _ h), fun k hk => ⟨(hsl k hk).1, fun h => (hsl k hk).2 (hK _ h)⟩⟩
theorem RefAt.not {w : World} {q : Nat} {K : Nat → Prop} {room : Int} {L : List Slot} (h : RefAt w q K room L) : ¬ K q ∧ q < w.heap.size := by
  obtain ⟨sl, B, hown, hq, hsl⟩ := h
  exact ⟨hq, B.lt⟩

/-- What an operation on a reference's cache gives, whatever the blocks K that are kept away from it. -/
def OpRef (K0 : Nat → Prop) (w : World) (q : Nat) (f : FuncId) (args : Array Value) (v : Value) (room : Int) (L L' : List Slot) : Prop :=
  ∀ K : Nat → Prop, (∀ k, K0 k → K k) → RefAt w q K room L → Calls Try.prog f args w fun e w' => e = .returned v ∧ RefAt w' q (fun k => K k ∧ k < w.heap.size) room L' ∧ Fr (fun k => ¬ K k) w w'
theorem opr_of {w : World} {q : Nat} {f : FuncId} {args : Array Value} {v : Value} {room : Int} {L L' : List Slot}
    {K0 : Nat → Prop} (hK0 : ∀ k, K0 k → k < w.heap.size) (h : ∀ K : Nat → Prop, (∀ k, K k → k < w.heap.size) → (∀ k, K0 k → K k) → RefAt w q K room L → Calls Try.prog f args w fun e w' => e = .returned v ∧ RefAt w' q K room L' ∧ Fr (fun k => ¬ K k) w w') : OpRef K0 w q f args v room L L' := fun K h0 hA => by
  refine (h (fun k => K k ∧ k < w.heap.size) (fun k h => h.2) (fun k hk => ⟨h0 k hk, hK0 k hk⟩) (hA.mono (fun k h => h.1))).mono ?_
  rintro e w' ⟨h1, h2, h3⟩
  exact ⟨h1, h2, h3.mono (fun i hi hn hk => hn ⟨hk, hi⟩)⟩
theorem opr_put {K0 : Nat → Prop} (w : World) (hK0 : ∀ k, K0 k → k < w.heap.size) (q : Nat) (room : Int) (L : List Slot) (hL : L.length ≤ 10000) (hn : NK L) (s : Slot) :
    OpRef K0 w q 31 #[pt q, .string s.key, .agg #[.int .i64 s.k, .int .i64 s.date, .int .i64 s.reason, .int .i64 s.cause], .agg #[.int .i64 s.fr, .int .i64 s.to]] (.int .i64 (putS room L s).1) room L (putS room L s).2 :=
  opr_of hK0 fun _ hK _ hA => rput_any hA hK hL hn s
theorem opr_get {K0 : Nat → Prop} (w : World) (hK0 : ∀ k, K0 k → k < w.heap.size) (q : Nat) (room : Int) (L : List Slot) (hL : L.length ≤ 10000) (hn : NK L) (key : ByteArray) (now : Int) :
    OpRef K0 w q 32 #[pt q, .string key, .int .i64 now] (told (getS L key now).1) room L (getS L key now).2 :=
  opr_of hK0 fun _ hK _ hA => rget_any hA hK hL hn key now
theorem opr_tick {K0 : Nat → Prop} (w : World) (hK0 : ∀ k, K0 k → k < w.heap.size) (q : Nat) (room : Int) (L : List Slot) (hL : L.length ≤ 10000) (now : Int) :
    OpRef K0 w q 34 #[pt q, .int .i64 now] (.int .i64 (tickS L now).1) room L (tickS L now).2 :=
  opr_of hK0 fun _ hK _ hA => (rtick_any hA hK hL now).mono fun _ _ ⟨h1, h2, h3⟩ => ⟨h1, h2, h3.mono (fun _ _ e => e ▸ hA.not.1)⟩
theorem opr_drop {K0 : Nat → Prop} (w : World) (hK0 : ∀ k, K0 k → k < w.heap.size) (q : Nat) (room : Int) (L : List Slot) (hL : L.length ≤ 10000) (hn : NK L) {v : Value} {ks : List ByteArray} (hv : Strs w v ks) (hlen : ks.length ≤ 1000000) (hvb : ∀ k, v.ownBlock = some k → K0 k) :
    OpRef K0 w q 35 #[pt q, v] (.int .i64 (dropS L ks).1) room L (dropS L ks).2 :=
  opr_of hK0 fun _ hK h0 hA => (rdrop_any hA hK hL hn hv hlen (fun k hk e => hA.not.1 (e ▸ h0 k (hvb k hk)))).mono fun _ _ ⟨h1, h2, h3⟩ => ⟨h1, h2, h3.mono (fun _ _ e => e ▸ hA.not.1)⟩
theorem op_tick {K0 : Nat → Prop} (w : World) (hK0 : ∀ k, K0 k → k < w.heap.size) (c : Nat) (room : Int) (L : List Slot) (hL : L.length ≤ 10000) (now : Int) :
    OpAway K0 w c 22 #[pt c, .int .i64 now] (.int .i64 (tickS L now).1) room L (tickS L now).2 :=
  op_of hK0 fun _ _ _ hA => tick_away hA now hL
theorem op_clear {K0 : Nat → Prop} (w : World) (hK0 : ∀ k, K0 k → k < w.heap.size) (c : Nat) (room : Int) (L : List Slot) :
    OpAway K0 w c 21 #[pt c] (.tuple #[]) room L [] :=
  op_of hK0 fun _ hK _ hA => clear_away hA hK

/-- A cache at c, a reference's at q, that share no block, and have none of K. -/
def Pair (w : World) (c q : Nat) (K : Nat → Prop) (room : Int) (L M : List Slot) : Prop :=
  (∀ k, K k → k < w.heap.size) ∧ ∃ S : Nat → Prop, Away w c (fun k => K k ∨ S k) room L ∧ RefAt w q (fun k => K k ∨ ¬ S k) room M

theorem Pair.nk {w : World} {c q : Nat} {K : Nat → Prop} {room : Int} {L M : List Slot} (h : Pair w c q K room L M) : NK L := by
  obtain ⟨_, S, h1, _⟩ := h
  exact away_nk h1
theorem Pair.away {w : World} {c q : Nat} {K : Nat → Prop} {room : Int} {L M : List Slot} (h : Pair w c q K room L M) : Away w c K room L := by
  obtain ⟨_, S, h1, _⟩ := h
  exact h1.mono (fun _ h => .inl h)
theorem Pair.ref {w : World} {c q : Nat} {K : Nat → Prop} {room : Int} {L M : List Slot} (h : Pair w c q K room L M) : RefAt w q K room M := by
  obtain ⟨_, S, _, h2⟩ := h
  exact h2.mono (fun _ h => .inl h)

theorem Pair.step {w w' : World} {c q : Nat} {K K' F : Nat → Prop} {room : Int} {L M : List Slot} (h : Pair w c q K room L M) (f : Fr F w w') (hF : ∀ k, k < w.heap.size → F k → K k) (hK : ∀ k, K' k → K k ∨ w.heap.size ≤ k) (hK' : ∀ k, K' k → k < w'.heap.size) :
    Pair w' c q K' room L M := by
  obtain ⟨_, S, h1, h2⟩ := h
  refine ⟨hK', S, h1.step f (fun k hk h => .inl (hF k hk h)) (fun k h => ?_), h2.step f (fun k hk h => .inl (hF k hk h)) (fun k h => ?_)⟩
  · rcases h with h | h
    · rcases hK k h with h | h
      · exact .inl (.inl h)
      · exact .inr h
    · exact .inl (.inr h)
  · rcases h with h | h
    · rcases hK k h with h | h
      · exact .inl (.inl h)
      · exact .inr h
    · exact .inl (.inr h)
theorem Pair.same {w w' : World} {c q : Nat} {K : Nat → Prop} {room : Int} {L M : List Slot} (h : Pair w c q K room L M) (f : Fr (fun _ => False) w w') : Pair w' c q K room L M :=
  h.step f (fun _ _ h => h.elim) (fun _ h => .inl h) (fun k hk => Nat.lt_of_lt_of_le (h.1 k hk) f.size)

theorem Pair.op {w : World} {c q : Nat} {K : Nat → Prop} {room : Int} {L L' M : List Slot} {f : FuncId} {args : Array Value} {v : Value} (h : Pair w c q K room L M) (o : OpAway K w c f args v room L L') :
    Calls Try.prog f args w fun e w' => e = .returned v ∧ Pair w' c q K room L' M ∧ Fr (fun k => ¬ K k) w w' := by
  obtain ⟨hK, S, h1, h2⟩ := h
  refine (o _ (fun k hk => .inl hk) h1).mono ?_
  rintro e w' ⟨he, h3, h4⟩
  refine ⟨he, ⟨fun k hk => Nat.lt_of_lt_of_le (hK k hk) h4.size, fun k => S k ∧ k < w.heap.size, h3.mono (fun k h => ?_), ?_⟩, h4.mono (fun i _ h hk => h (.inl hk))⟩
  · rcases h with h | h
    · exact ⟨.inl h, hK k h⟩
    · exact ⟨.inr h.1, h.2⟩
  · refine h2.step h4 (fun k _ hn => ?_) (fun k hk => ?_)
    · exact .inr (fun hs => hn (.inr hs))
    · rcases hk with hk | hk
      · exact .inl (.inl hk)
      · rcases Nat.lt_or_ge k w.heap.size with hlt | hge
        · exact .inl (.inr (fun hs => hk ⟨hs, hlt⟩))
        · exact .inr hge
theorem Pair.opr {w : World} {c q : Nat} {K : Nat → Prop} {room : Int} {L M M' : List Slot} {f : FuncId} {args : Array Value} {v : Value} (h : Pair w c q K room L M) (o : OpRef K w q f args v room M M') :
    Calls Try.prog f args w fun e w' => e = .returned v ∧ Pair w' c q K room L M' ∧ Fr (fun k => ¬ K k) w w' := by
  obtain ⟨hK, S, h1, h2⟩ := h
  refine (o _ (fun k hk => .inl hk) h2).mono ?_
  rintro e w' ⟨he, h3, h4⟩
  refine ⟨he, ⟨fun k hk => Nat.lt_of_lt_of_le (hK k hk) h4.size, fun k => S k ∨ w.heap.size ≤ k, h1.step h4 (fun k _ hn => ?_) (fun k hk => ?_), h3.mono (fun k h => ?_)⟩, h4.mono (fun i _ h hk => h (.inl hk))⟩
  · exact .inr (Classical.not_not.1 (fun hs => hn (.inr hs)))
  · rcases hk with hk | hk | hk
    · exact .inl (.inl hk)
    · exact .inl (.inr hk)
    · exact .inr hk
  · rcases h with h | h
    · exact ⟨.inl h, hK k h⟩
    · exact ⟨.inr (fun hs => h (.inl hs)), by omega⟩

/-- The reference's rows are taken away whole. -/
theorem Pair.wipe {w : World} {c q : Nat} {K : Nat → Prop} {room : Int} {L M : List Slot} (h : Pair w c q K room L M) :
    Pair (w.setCell ⟨q, 1, none⟩ (.slice none 0 0)) c q K room L [] := by
  obtain ⟨hK, S, h1, h2⟩ := h
  have hq := h2.not
  have f : Fr (fun k => k = q) w (w.setCell ⟨q, 1, none⟩ (.slice none 0 0)) := Fr.setCell (S := fun k => k = q) (p := ⟨q, 1, none⟩) (Fr.refl w) (fun _ => rfl) _
  refine ⟨fun k hk => Nat.lt_of_lt_of_le (hK k hk) f.size, S, h1.step f (fun k _ e => ?_) (fun _ h => .inl h), ?_⟩
  · exact .inr (Classical.not_not.1 (fun hs => hq.1 (.inr (e ▸ hs))))
  · obtain ⟨sl, B, hown, h3, hsl⟩ := h2
    exact ⟨.slice none 0 0, B.set 1 _, ⟨rfl, .inl ⟨rfl, rfl⟩⟩, h3, by simp [Value.ownBlock]⟩

theorem drop_none (w : World) (c : Nat) (a : Option Addr) (cap : Nat) :
    Calls Try.prog 16 #[pt c, .slice a 0 cap] w fun e w' => e = .returned (.int .i64 0) ∧ w = w' := by
  go_enter Try.func16, Try.ntmps16
  go_wp2_with fail
  go_loopg [5, 14] 0 (fun g n i wr => g = 0 ∧ i = .int .i64 0 ∧ n = .int .i64 0 ∧ wr = w)
  case atStart => exact ⟨rfl, rfl, rfl, rfl⟩
  case round =>
    obtain ⟨rfl, rfl, rfl, rfl⟩ := hrel
    go_wp2_with fail
    go_ret
    exact ⟨rfl, rfl⟩
theorem rdrop_none (w : World) (q : Nat) (a : Option Addr) (cap : Nat) :
    Calls Try.prog 35 #[pt q, .slice a 0 cap] w fun e w' => e = .returned (.int .i64 0) ∧ w = w' := by
  go_enter Try.func35, Try.ntmps35
  go_wp2_with fail
  go_loopg [5, 6] 0 (fun g n i wr => g = 0 ∧ i = .int .i64 0 ∧ n = .int .i64 0 ∧ wr = w)
  case atStart => exact ⟨rfl, rfl, rfl, rfl⟩
  case round =>
    obtain ⟨rfl, rfl, rfl, rfl⟩ := hrel
    go_wp2_with fail
    go_ret
    exact ⟨rfl, rfl⟩
end Go.Proofs.Ytjcjebmlibllbaa
