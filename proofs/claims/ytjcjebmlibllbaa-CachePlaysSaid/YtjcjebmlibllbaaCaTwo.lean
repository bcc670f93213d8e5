/-
  Two caches in memory that share no block, and what an operation on one of them does.
-/
import Derived.Test.YtjcjebmlibllbaaCaDrop
namespace Go.Proofs.Ytjcjebmlibllbaa
open Go Go.RowKit Go.Q

theorem Away.mono {w : World} {c : Nat} {K K' : Nat → Prop} {room : Int} {L : List Slot} (h : Away w c K room L) (hK : ∀ k, K' k → K k) : Away w c K' room L := by
  obtain ⟨r, m, bs, D, hC, hk, hL⟩ := h
  exact ⟨r, m, bs, D, hC, fun k hm hk' => hk k hm (hK k hk'), hL⟩

/-- What an operation on a cache gives, whatever the blocks K that are kept away from it. -/
def OpAway (K0 : Nat → Prop) (w : World) (c : Nat) (f : FuncId) (args : Array Value) (v : Value) (room : Int) (L L' : List Slot) : Prop :=
  ∀ K : Nat → Prop, (∀ k, K0 k → K k) → Away w c K room L → Calls Try.prog f args w fun e w' => e = .returned v ∧ Away w' c (fun k => K k ∧ k < w.heap.size) room L' ∧ Fr (fun k => ¬ K k) w w'

theorem op_of {w : World} {c : Nat} {f : FuncId} {args : Array Value} {v : Value} {room : Int} {L L' : List Slot}
    {K0 : Nat → Prop} (hK0 : ∀ k, K0 k → k < w.heap.size) (h : ∀ K : Nat → Prop, (∀ k, K k → k < w.heap.size) → (∀ k, K0 k → K k) → Away w c K room L → Calls Try.prog f args w fun e w' => e = .returned v ∧ Away w' c K room L' ∧ Fr (fun k => ¬ K k) w w') : OpAway K0 w c f args v room L L' := fun K h0 hA => by
  refine (h (fun k => K k ∧ k < w.heap.size) (fun k h => h.2) (fun k hk => ⟨h0 k hk, hK0 k hk⟩) (hA.mono (fun k h => h.1))).mono ?_
  rintro e w' ⟨h1, h2, h3⟩
  exact ⟨h1, h2, h3.mono (fun i hi hn hk => hn ⟨hk, hi⟩)⟩

theorem op_put {K0 : Nat → Prop} (w : World) (hK0 : ∀ k, K0 k → k < w.heap.size) (c : Nat) (room : Int) (L : List Slot) (s : Slot) :
    OpAway K0 w c 9 #[pt c, .string s.key, .agg #[.int .i64 s.k, .int .i64 s.date, .int .i64 s.reason, .int .i64 s.cause], .agg #[.int .i64 s.fr, .int .i64 s.to]] (.int .i64 (putS room L s).1) room L (putS room L s).2 :=
  op_of hK0 fun _ hK _ hA => put_away hA hK s
theorem op_get {K0 : Nat → Prop} (w : World) (hK0 : ∀ k, K0 k → k < w.heap.size) (c : Nat) (room : Int) (L : List Slot) (key : ByteArray) (now : Int) :
    OpAway K0 w c 11 #[pt c, .string key, .int .i64 now] (told (getS L key now).1) room L (getS L key now).2 :=
  op_of hK0 fun _ _ _ hA => get_away hA key now
theorem op_drop {K0 : Nat → Prop} (w : World) (hK0 : ∀ k, K0 k → k < w.heap.size) (c : Nat) (room : Int) (L : List Slot) {v : Value} {ks : List ByteArray} (hv : Strs w v ks) (hlen : ks.length ≤ 1000000) (hvb : ∀ k, v.ownBlock = some k → K0 k) :
    OpAway K0 w c 16 #[pt c, v] (.int .i64 (dropS L ks).1) room L (dropS L ks).2 :=
  op_of hK0 fun _ _ h0 hA => drop_away hA hv hlen (fun k hk => h0 k (hvb k hk))

/-- Two caches, at c and at d, that share no block, and have none of K. -/
def Two (w : World) (c d : Nat) (K : Nat → Prop) (room : Int) (L M : List Slot) : Prop :=
  (∀ k, K k → k < w.heap.size) ∧ ∃ S : Nat → Prop, Away w c (fun k => K k ∨ S k) room L ∧ Away w d (fun k => K k ∨ ¬ S k) room M

theorem Two.symm {w : World} {c d : Nat} {K : Nat → Prop} {room : Int} {L M : List Slot} (h : Two w c d K room L M) : Two w d c K room M L := by
  obtain ⟨hK, S, h1, h2⟩ := h
  exact ⟨hK, fun k => ¬ S k, h2, h1.mono (fun k h => h.imp id (fun h => Classical.not_not.1 h))⟩

theorem Two.step {w w' : World} {c d : Nat} {K K' F : Nat → Prop} {room : Int} {L M : List Slot} (h : Two w c d K room L M) (f : Fr F w w') (hF : ∀ k, k < w.heap.size → F k → K k) (hK : ∀ k, K' k → K k ∨ w.heap.size ≤ k) (hK' : ∀ k, K' k → k < w'.heap.size) :
    Two w' c d K' room L M := by
  obtain ⟨_, S, h1, h2⟩ := h
  refine ⟨hK', S, h1.step f (fun k hk h => .inl (hF k hk h)) (fun k h => ?_), h2.step f (fun k hk h => .inl (hF k hk h)) (fun k h => ?_)⟩
  · rcases h with h | h
    · rcases hK k h with h | h
      · exact .inl (.inl h)
      · exact .inr h
    · exact .inl (.inr h)
  · rcases h with h | h
    · rcases hK k h with h | h
      · exact .inl (.inl h)
      · exact .inr h
    · exact .inl (.inr h)
theorem Two.same {w w' : World} {c d : Nat} {K : Nat → Prop} {room : Int} {L M : List Slot} (h : Two w c d K room L M) (f : Fr (fun _ => False) w w') : Two w' c d K room L M :=
  h.step f (fun _ _ h => h.elim) (fun _ h => .inl h) (fun k hk => Nat.lt_of_lt_of_le (h.1 k hk) f.size)

theorem Two.op {w : World} {c d : Nat} {K : Nat → Prop} {room : Int} {L L' M : List Slot} {f : FuncId} {args : Array Value} {v : Value} (h : Two w c d K room L M) (o : OpAway K w c f args v room L L') :
    Calls Try.prog f args w fun e w' => e = .returned v ∧ Two w' c d K room L' M ∧ Fr (fun k => ¬ K k) w w' := by
  obtain ⟨hK, S, h1, h2⟩ := h
  refine (o _ (fun k hk => .inl hk) h1).mono ?_
  rintro e w' ⟨he, h3, h4⟩
  refine ⟨he, ⟨fun k hk => Nat.lt_of_lt_of_le (hK k hk) h4.size, fun k => S k ∧ k < w.heap.size, h3.mono (fun k h => ?_), ?_⟩, h4.mono (fun i _ h hk => h (.inl hk))⟩
  · rcases h with h | h
    · exact ⟨.inl h, hK k h⟩
    · exact ⟨.inr h.1, h.2⟩
  · refine h2.step h4 (fun k _ hn => ?_) (fun k hk => ?_)
    · exact .inr (fun hs => hn (.inr hs))
    · rcases hk with hk | hk
      · exact .inl (.inl hk)
      · rcases Nat.lt_or_ge k w.heap.size with hlt | hge
        · exact .inl (.inr (fun hs => hk ⟨hs, hlt⟩))
        · exact .inr hge
theorem Two.op2 {w : World} {c d : Nat} {K : Nat → Prop} {room : Int} {L M M' : List Slot} {f : FuncId} {args : Array Value} {v : Value} (h : Two w c d K room L M) (o : OpAway K w d f args v room M M') :
    Calls Try.prog f args w fun e w' => e = .returned v ∧ Two w' c d K room L M' ∧ Fr (fun k => ¬ K k) w w' :=
  (h.symm.op o).mono fun _ _ ⟨h1, h2, h3⟩ => ⟨h1, h2.symm, h3⟩

/-- Two new caches. -/
theorem two_new {w : World} {room : Int} {c d : Nat} {w2 : World} {K : Nat → Prop} (h1 : Away w c K room []) (hK : ∀ k, K k → k < w.heap.size) (f : Fr (fun _ => False) w w2) (h2 : Away w2 d (fun k => k < w.heap.size) room []) : Two w2 c d K room [] [] := by
  refine ⟨fun k hk => Nat.lt_of_lt_of_le (hK k hk) f.size, fun k => w.heap.size ≤ k, h1.step f (fun _ _ h => h.elim) (fun k h => h), h2.mono (fun k h => ?_)⟩
  rcases h with h | h
  · exact hK k h
  · omega

theorem status_fr (a b c d : Int) (w : World) : Calls Try.prog 10 #[.agg #[.int .i64 a, .int .i64 b, .int .i64 c, .int .i64 d]] w fun e w' =>
    e = .returned (.agg #[.int .i64 a, .int .i64 b, .int .i64 c, .int .i64 d]) ∧ Fr (fun _ => False) w w' :=
  (status_any a b c d w).mono fun e w' h => ⟨h.1, by rw [h.2]; exact ((Fr.refl w).alloc _).alloc _⟩
end Go.Proofs.Ytjcjebmlibllbaa
