/-
  Merged by program: XBase XFrm XVals XNOct XNApp XInts XNBits XNmSpec XNmText XNDig XNHead XNHead2 XNHead3 XNHead4 XNHead5 XNHead6 XNHead7 XNHead8 XNHead9 XNWrap0 XNDig2 XNLen XShelf XNRev XNWrap XNOid XNOid2 XNOid3 XNOid4 XNOid5 XNOne XNWhS XNWhW XNName1.
-/
import Derived.Test.YtacekpdjapgfcaaGreatDoorRows
import Derived.WalkKit
import Derived.WalkSpells
import Derived.Lib.Hide
import Derived.Deep.QuietTactic
import Derived.BigQuiet
import Derived.Deep.RegionHeld3
import Derived.StillTailTactics
import Derived.Test.YtacekpdjapgfcaaGreatDoorCards
import Derived.Test.YtacekpdjapgfcaaGreatDoorTie
import Derived.PinnedBridge
import Derived.Lib.LaidU8T
import Derived.Shelf.Vars
import Derived.Lib.ItoaNum
import Derived.Handed
import Derived.Lay
import Derived.ProofKit
import Derived.OpenShut
import Derived.ShutString
import Derived.ChangeOld
import Derived.SevenTiedAt
import Derived.Lib.UnsafeStr
import Derived.Laws.AppendOwn
import Derived.Laws.CopyOwn
import Derived.Laws.MakeOwn
import Derived.Laws.OwnMore
import Derived.Deep.RegionWith
import Derived.Deep.DeepCutAuto
import Derived.Maps.AppendAt
import Derived.Deep.RegionLaw
import Derived.Laws.BitsLemmas
import Derived.Laws.BitsAllLaws
import Derived.Lib.DecodeN
import Derived.Lib.Itoa
import Derived.Shelf.Strings.Builder1
import Derived.Shelf.Strings.Builder2
import Derived.Shelf.Strings.OnBuilder
import Derived.Shelf.Small.Strs
import Derived.Shelf.Small.Wraps
import Derived.Shelf.Strings.BuilderF
import Derived.Shelf.Strings.BuilderK
import Derived.Shelf.Utf8.AppendRune
import Derived.Shelf.Utf8.AppendRunePlain
import Derived.Shelf.Utf8.RuneCount
import Derived.Shelf.Strconv.Itoa0
import Derived.Shelf.Strconv.Itoa1
import Derived.Shelf.LaysM
import Derived.Shelf.Strconv.Itoa2
import Derived.Shelf.Strconv.Itoa3
import Derived.Shelf.Strings.Search1
import Derived.Shelf.Strings.Search2
import Derived.Shelf.Strings.Search3
import Derived.Shelf.Strings.Cut
import Derived.Shelf.Strings.Count
import Derived.Shelf.Strings.Shaped
import Derived.Shelf.Sort.Plain
import Derived.Shelf.Strings.LastIndex
import Derived.Shelf.Strings.Prefix
import Derived.Shelf.Strings.Split
import Derived.Shelf.Strings.SplitShaped
import Derived.Shelf.Unicode.Decode
import Derived.Shelf.Strings.RuneCount
import Derived.Shelf.Strings.Explode
import Derived.Shelf.Unicode.DecodeSlow
import Derived.Shelf.Unicode.DecodeAny
import Derived.Shelf.Slices.Turned
import Derived.Ground.Names2Prog
import Derived.Shelf.Slices.Clone
import Derived.Shelf.Slices.CompactS
import Derived.Shelf.Slices.In.SortNone
import Derived.Ground.SlgnProg
import Derived.Shelf.SlGeneric
import Derived.Shelf.SlicesE.Reverse
import Derived.Shelf.SlicesE.Clone
import Derived.Test.YtacekpdjapgfcaaGreatDoorProg
namespace Go.Q
open Go Go.RowKit
abbrev pt (b : Nat) : Value := .pointer (some ⟨b, 0, none⟩)
structure Fr (S : Nat → Prop) (w w' : World) : Prop where
  os : w'.os = w.os
  tape : w'.tape = w.tape
  output : w'.output = w.output
  size : w.heap.size ≤ w'.heap.size
  block : ∀ k, k < w.heap.size → ¬ S k → w'.heap[k]? = w.heap[k]?
theorem Fr.refl {S : Nat → Prop} (w : World) : Fr S w w := ⟨rfl, rfl, rfl, Nat.le_refl _, fun _ _ _ => rfl⟩
theorem Fr.trans {S : Nat → Prop} {a b c : World} (h : Fr S a b) (k : Fr S b c) : Fr S a c :=
  ⟨k.os.trans h.os, k.tape.trans h.tape, k.output.trans h.output, Nat.le_trans h.size k.size,
   fun i hi hS => (k.block i (Nat.lt_of_lt_of_le hi h.size) hS).trans (h.block i hi hS)⟩
theorem Fr.trans' {S T : Nat → Prop} {a b c : World} (h : Fr S a b) (k : Fr T b c) (hT : ∀ i, i < a.heap.size → T i → S i) : Fr S a c :=
  ⟨k.os.trans h.os, k.tape.trans h.tape, k.output.trans h.output, Nat.le_trans h.size k.size,
   fun i hi hS => (k.block i (Nat.lt_of_lt_of_le hi h.size) (fun ht => hS (hT i hi ht))).trans (h.block i hi hS)⟩
theorem Fr.mono {S T : Nat → Prop} {w w' : World} (h : Fr S w w') (hT : ∀ i, i < w.heap.size → S i → T i) : Fr T w w' :=
  ⟨h.os, h.tape, h.output, h.size, fun k hk hS => h.block k hk (fun s => hS (hT k hk s))⟩
theorem Fr.drew {S : Nat → Prop} {a w : World} (h : Fr S a w) : Fr S a w.drew := ⟨h.os, h.tape, h.output, h.size, h.block⟩
theorem Fr.drewN {S : Nat → Prop} {a w : World} (h : Fr S a w) (n : Nat) : Fr S a (w.drewN n) := ⟨h.os, h.tape, h.output, h.size, h.block⟩
theorem Fr.alloc {S : Nat → Prop} {a w : World} (h : Fr S a w) (o : Obj) : Fr S a (w.alloc o) :=
  h.trans ⟨rfl, rfl, rfl, by simp, fun k hk _ => Below.heap_alloc _ _ _ hk⟩
theorem Fr.setCell {S : Nat → Prop} {a w : World} (h : Fr S a w) {p : Addr} (hp : p.block < a.heap.size → S p.block) (u : Value) : Fr S a (w.setCell p u) :=
  ⟨h.os, h.tape, h.output, by have := h.size; simpa [World.setCell] using this, fun k hk hS =>
    (Below.heap_setCell _ _ _ _ (fun e => hS (by subst e; exact hp hk))).trans (h.block k hk hS)⟩
theorem Fr.below {S : Nat → Prop} {B : Nat} {w w' : World} (h : Fr S w w') (hB : B ≤ w.heap.size) (hS : ∀ i, i < B → ¬ S i) : Below B w w' :=
  ⟨h.os, h.tape, h.output, h.size, fun k hk => h.block k (by omega) (hS k hk)⟩
theorem Fr.of_below {w w' : World} (h : Below w.heap.size w w') : Fr (fun _ => False) w w' := ⟨h.os, h.tape, h.output, h.size, fun k hk _ => h.block k hk⟩
def Blk (w : World) (b : Nat) (t : TypeId) (cs : Array Value) : Prop := w.heap[b]? = some (.cells cs t (0, 0))
theorem Blk.lt {w : World} {b : Nat} {t : TypeId} {cs : Array Value} (h : Blk w b t cs) : b < w.heap.size := (Array.getElem?_eq_some_iff.1 h).1
theorem Blk.cell {w : World} {b : Nat} {t : TypeId} {cs : Array Value} (h : Blk w b t cs) (i : Nat) : w.cell? ⟨b, i, none⟩ = cs[i]? := by
  unfold Blk at h; simp [World.cell?, h]
theorem Blk.frozen {w : World} {b : Nat} {t : TypeId} {cs : Array Value} (h : Blk w b t cs) (i : Nat) : w.frozen? ⟨b, i, none⟩ = false := by
  unfold Blk at h; simp [World.frozen?, h]
theorem Blk.fr {S : Nat → Prop} {w w' : World} {b : Nat} {t : TypeId} {cs : Array Value} (h : Blk w b t cs) (f : Fr S w w') (hb : ¬ S b) : Blk w' b t cs :=
  (f.block b h.lt hb).trans h
theorem Blk.drew {w : World} {b : Nat} {t : TypeId} {cs : Array Value} (h : Blk w b t cs) : Blk w.drew b t cs := h
theorem Blk.alloc {w : World} {b : Nat} {t : TypeId} {cs : Array Value} (h : Blk w b t cs) (o : Obj) : Blk (w.alloc o) b t cs :=
  (Below.heap_alloc w o b h.lt).trans h
theorem Blk.new (w : World) (t : TypeId) (cs : Array Value) : Blk (w.alloc (.cells cs t)) w.heap.size t cs := by
  unfold Blk World.alloc; simp
theorem Blk.set_other {w : World} {b : Nat} {t : TypeId} {cs : Array Value} (h : Blk w b t cs) {a : Addr} (hb : b ≠ a.block) (v : Value) : Blk (w.setCell a v) b t cs :=
  (Below.heap_setCell w a v b hb).trans h
theorem Blk.set {w : World} {b : Nat} {t : TypeId} {cs : Array Value} (h : Blk w b t cs) (i : Nat) (v : Value) : Blk (w.setCell ⟨b, i, none⟩ v) b t (cs.setIfInBounds i v) := by
  unfold Blk at *; simp [World.setCell, Array.getElem?_modify, h]
theorem Fr.cell {S : Nat → Prop} {w w' : World} (f : Fr S w w') {a : Addr} {v : Value} (h : w.cell? a = some v) (hb : ¬ S a.block) : w'.cell? a = some v := by
  have e : w'.cell? a = w.cell? a := World.cell?_of_block (w := w) (f.block a.block (World.block_lt_of_cell? w a h) hb)
  exact e.trans h
theorem alloc_old (w : World) (o : Obj) (b i : Nat) (h : b < w.heap.size) : (w.alloc o).cell? ⟨b, i, none⟩ = w.cell? ⟨b, i, none⟩ := World.cell?_alloc_lt w o ⟨b, i, none⟩ h
end Go.Q

namespace Go.Proofs.YtacekpdjapgfcaaGreatDoor
open Go Go.RowKit Go.Q Go.Shelf Go.ChangeShapes Go.WideShapes Go.ChangeAt
theorem handed_both {H : Type} {enc : TypeId × Value → H} {a : Assume} {C : Checked} {os : Os} {f : FuncId} {fn : Func} {s : ChangeSpec} {conds : List PathCond} {apart fresh handsOn again : Bool} {X : World → Array Value → Prop}
    (hX : ∀ (w w' : World) (args : Array Value), w.heap = w'.heap → X w args → X w' args)
    (own : ownKnob C.prog.godebug = none) (started : os.Started) (noInit : C.prog.inits.idxOf? f = none) (hfn : C.prog.funcs[f]? = some fn)
    (witness : ∃ (w : World) (tape : Tape) (i : Input), w.os = os ∧ (w.forCall tape i).Shaped C.prog ∧ i.vars = [] ∧ Input.okWide C.prog (w.forCall tape i) .any w.heap.size f i ∧
      ((s.pre enc C.prog fn conds apart (w.forCall tape i).memory i.args ∧ X (w.forCall tape i).memory i.args) ∧ sizedMet enc C.prog fn (OpenSpec.ofChange s) apart (w.forCall tape i).memory i.args) ∧ a.holds C.prog (lone (Frame.enter C.prog f i.args .normal) [] (w.forCall tape i)))
    (contract : ∀ (W : World) (base : Nat) (args : Array Value) (ds gs : List (DataW H)) (before : List MemPlace),
      (∀ (j : Nat) t v, fn.params[j]? = some t → args[j]? = some v → Value.okWide C.prog W .any base t v) →
      DataW.Whole enc C.prog fn.params.toList s.vars apart W args.toList ds gs before → X W args → W.ShapedOpen C.prog →
      Calls C.prog f args W fun e W' => ∃ v, e = .returned v ∧ s.post enc C.prog fn apart fresh handsOn again W args v W') :
    ReturnsInHanded a C os f .any (fun w args => (s.pre enc C.prog fn conds apart w args ∧ X w args) ∧ sizedMet enc C.prog fn (OpenSpec.ofChange s) apart w args) (s.post enc C.prog fn apart fresh handsOn again) := by
  refine returnsInHanded_of_calls own started noInit witness ?_
  intro w tape i _ hsh _ hok hpre _
  obtain ⟨_, _, _, fn', hfn', _, _, _, _, hval⟩ := hok
  have e : fn' = fn := Option.some.inj (hfn'.symm.trans hfn)
  subst e
  obtain ⟨⟨⟨ds, gs, before, hw, _⟩, hx⟩, _⟩ := hpre
  have hw' := DataW.Whole.of_heap (w' := w.forCall tape i) (by rfl) hw
  refine (contract (w.forCall tape i) w.heap.size i.args ds gs before hval hw' (hX _ _ _ (by rfl) hx) hsh).mono fun e W' ⟨v, he, hp⟩ => ?_
  subst he
  exact ChangeSpec.post_blind hp
theorem ownP : ownKnob Tryz.prog.godebug = none := by kernel_rfl
theorem laidOutP : laidOutB Tryz.prog = true := by kernel_rfl
def u8ren : Ren := ⟨fun n => n, fun n => if n = 5 then 5 else if n = 119 then 353 else if n = 138 then 355 else 356, fun n => if n = 3 then 4 else 5⟩
theorem u8types : U8Types Tryz.prog u8ren := ⟨by kernel_rfl, by kernel_rfl, by kernel_rfl, by kernel_rfl⟩
theorem u8extra : U8Extra Tryz.prog u8ren := ⟨by kernel_rfl, by kernel_rfl, by kernel_rfl, by kernel_rfl, by kernel_rfl, by kernel_rfl, by kernel_rfl⟩
abbrev laidL : List (String × DataW Unit) := Rows.nameBackRow.laid
theorem pow_data : (Rows.laid_internal_strconv_uint64pow10 : DataW Unit) = Lib.tabData .u64 Lib.pow10Tab := by kernel_rfl
theorem accept_data : (Rows.laid_unicode_utf8_acceptRanges : DataW Unit) = Lib.acceptData := by kernel_rfl
theorem laid_facts {W : World} (h : laidMetH Tryz.prog laidL W) (hs : W.ShapedOpen Tryz.prog) :
    Lib.Utf8Tabs 4 5 W ∧ Lib.TabIs Tryz.prog W "internal/strconv.uint64pow10" .u64 Lib.pow10Tab ∧ ∃ m, W.cell? ⟨1, 0, none⟩ = some (.int .i64 m) := by
  rw [MakeChecks.laidMetH_plain _ _ _ (by kernel_rfl)] at h
  have r1 : Lib.VarReads Tryz.prog W "unicode/utf8.first" Lib.firstData := Pinned.utf8First_eq ▸ Lib.laidMet.reads h (.tail _ (.tail _ (.tail _ (.tail _ (.head _)))))
  have r2 : Lib.VarReads Tryz.prog W "unicode/utf8.acceptRanges" Lib.acceptData := accept_data ▸ Lib.laidMet.reads h (.tail _ (.tail _ (.tail _ (.head _))))
  have r3 : Lib.VarReads Tryz.prog W "internal/strconv.uint64pow10" (Lib.tabData .u64 Lib.pow10Tab) := pow_data ▸ Lib.laidMet.reads h (.tail _ (.tail _ (.head _)))
  refine ⟨utf8Tabs_of_readsT u8types u8extra r1 r2, ?_, cell_of_shapedOpen_int hs (of_decide_eq_true (by kernel_rfl)) (zero := #[.int .i64 0]) (t := 3) (by kernel_rfl) rfl (by kernel_rfl) (by kernel_rfl) Tryz.underlying3⟩
  obtain ⟨g, t, cs, fuel, p, hg, ht, hvar, hd⟩ := r3
  obtain rfl := Option.some.inj ((show Tryz.prog.globalNamed "internal/strconv.uint64pow10" = some 0 by kernel_rfl).symm.trans hg)
  obtain rfl := Option.some.inj ((show (Tryz.prog.globals[0]?).map (·.type) = some 320 by kernel_rfl).symm.trans ht)
  unfold Lib.TabIs
  rw [hvar, ← Lib.cells_of_tab (n := 20) (e := 37) (by kernel_rfl) (by kernel_rfl) (by kernel_rfl) (by kernel_rfl) hd]
theorem laid_world (os : Os) (args : Array Value) : laidMetH Tryz.prog laidL ((World.laidAll Tryz.prog os laidL).forCall (fun _ _ => 0) ⟨#[], args, []⟩).memory := by
  rw [MakeChecks.laidMetH_plain _ _ _ (by kernel_rfl)]
  exact laidMet_laidAll _ (by kernel_rfl) (by kernel_rfl)
theorem laid_shaped (os : Os) (args : Array Value) : ((World.laidAll Tryz.prog os laidL).forCall (fun _ _ => 0) ⟨#[], args, []⟩).Shaped Tryz.prog :=
  World.shaped_of_ZipB (by kernel_rfl) (by kernel_rfl)
end Go.Proofs.YtacekpdjapgfcaaGreatDoor

namespace Go.Q
open Go Go.RowKit
def Vals (w : World) (v : Value) (xs : List Value) : Prop :=
  ∃ a cap, v = .slice a xs.length cap ∧ xs.length ≤ cap ∧ cap ≤ maxLen ∧ (0 < xs.length → ∃ b o, a = some ⟨b, o, none⟩ ∧ ∀ i u, xs[i]? = some u → w.cell? ⟨b, o + i, none⟩ = some u)
def Off (v : Value) (n : Nat) (K : Nat → Prop) : Prop := 0 < n → ∀ k, v.ownBlock = some k → ¬ K k
def ValsK (w : World) (K : Nat → Prop) (v : Value) (xs : List Value) : Prop := Vals w v xs ∧ Off v xs.length K
theorem Vals.lt {w : World} {v : Value} {xs : List Value} (h : Vals w v xs) (h0 : 0 < xs.length) : ∀ k, v.ownBlock = some k → k < w.heap.size := by
  intro k hk
  obtain ⟨a, cap, rfl, _, _, h⟩ := h
  obtain ⟨b, o, rfl, hx⟩ := h h0
  simp only [Value.ownBlock, Option.some.injEq] at hk
  subst hk
  exact World.block_lt_of_cell? w _ (hx 0 _ (List.getElem?_eq_getElem h0))
theorem Vals.nil (w : World) : Vals w (.slice none 0 0) [] := ⟨none, 0, rfl, Nat.le_refl _, Nat.zero_le _, fun h => absurd h (Nat.lt_irrefl _)⟩
theorem Vals.fr {S : Nat → Prop} {w w' : World} {v : Value} {xs : List Value} (h : Vals w v xs) (f : Fr S w w') (hS : Off v xs.length S) : Vals w' v xs := by
  obtain ⟨a, cap, rfl, hc, hm, h⟩ := h
  refine ⟨a, cap, rfl, hc, hm, fun h0 => ?_⟩
  obtain ⟨b, o, rfl, hx⟩ := h h0
  exact ⟨b, o, rfl, fun i u hu => f.cell (hx i u hu) (hS h0 b rfl)⟩
theorem Vals.old {w w' : World} {v : Value} {xs : List Value} (h : Vals w v xs) (f : Fr (fun _ => False) w w') : Vals w' v xs := h.fr f (fun _ _ _ h => h)
theorem ValsK.fr {S K K' : Nat → Prop} {w w' : World} {v : Value} {xs : List Value} (h : ValsK w K v xs) (f : Fr S w w') (hS : ∀ k, k < w.heap.size → S k → K k) (hK : ∀ k, K' k → K k ∨ w.heap.size ≤ k) : ValsK w' K' v xs := by
  refine ⟨h.1.fr f (fun h0 k hk hs => h.2 h0 k hk (hS k (h.1.lt h0 k hk) hs)), fun h0 k hk hk' => ?_⟩
  rcases hK k hk' with h1 | h1
  · exact h.2 h0 k hk h1
  · have := h.1.lt h0 k hk
    omega
theorem ValsK.old {K : Nat → Prop} {w w' : World} {v : Value} {xs : List Value} (h : ValsK w K v xs) (f : Fr (fun _ => False) w w') : ValsK w' K v xs := h.fr f (fun _ _ h => h.elim) (fun _ h => .inl h)
theorem ValsK.mono {K K' : Nat → Prop} {w : World} {v : Value} {xs : List Value} (h : ValsK w K v xs) (hK : ∀ k, K' k → K k) : ValsK w K' v xs := ⟨h.1, fun h0 k hk hk' => h.2 h0 k hk (hK k hk')⟩
theorem Vals.of_own {w : World} {base n : Nat} {e : TypeId} {v : Value} {xs : List Value} (h : w.ownsRow base e 1 v n xs) : Vals w v xs ∧ ∀ k, v.ownBlock = some k → base ≤ k ∧ k < w.heap.size := by
  obtain ⟨h1, h2⟩ := h
  simp only [Nat.mul_one] at h1
  rcases h2 with ⟨rfl, h2⟩ | ⟨g, cap, cur, rfl, hg, hh, hnc, hcm, hcs, htk⟩
  · have : xs = [] := by simpa [h2] using h1
    subst this
    exact ⟨Vals.nil w, by simp [Value.ownBlock]⟩
  · refine ⟨⟨_, cap, by rw [h1], by omega, hcm, fun _ => ⟨g, 0, rfl, fun i u hu => ?_⟩⟩, fun k hk => ?_⟩
    · have hi : i < xs.length := (List.getElem?_eq_some_iff.1 hu).1
      have e1 : cur.toList[i]? = some u := by
        rw [← hu, ← htk, List.getElem?_take, if_pos (by omega)]
      simp only [World.cell?, hh, Nat.zero_add]
      simpa using e1
    · simp only [Value.ownBlock, Option.some.injEq] at hk
      exact ⟨by omega, by subst hk; exact (Array.getElem?_eq_some_iff.1 hh).1⟩
theorem own_block {w : World} {g : Nat} {e : TypeId} {cs : Array Value} (h : Blk w g e cs) (n : Nat) (hn : n ≤ cs.size) (hm : cs.size ≤ maxLen) (base : Nat) (hb : base ≤ g) : w.ownsRow base e 1 (.slice (some ⟨g, 0, none⟩) n cs.size) n (cs.toList.take n) :=
  ⟨by simp; omega, .inr ⟨g, cs.size, cs, rfl, hb, h, hn, hm, by simp, by simp⟩⟩
abbrev Bytes (w : World) (v : Value) (l : List UInt8) : Prop := Vals w v (Lib.byteCells l)
abbrev BytesK (w : World) (K : Nat → Prop) (v : Value) (l : List UInt8) : Prop := ValsK w K v (Lib.byteCells l)
theorem byteCells_len (l : List UInt8) : (Lib.byteCells l).length = l.length := by simp [Lib.byteCells]
theorem byteCells_get (l : List UInt8) (i : Nat) : (Lib.byteCells l)[i]? = l[i]?.map (fun b => Value.int .u8 b.toNat) := by simp [Lib.byteCells]
theorem Vals.form {w : World} {v : Value} {l : List UInt8} (h : Bytes w v l) : ∃ a cap, v = .slice a l.length cap ∧ l.length ≤ cap ∧ cap ≤ maxLen ∧ (0 < l.length → ∃ b o, a = some ⟨b, o, none⟩ ∧ ∀ i x, l[i]? = some x → w.cell? ⟨b, o + i, none⟩ = some (.int .u8 x.toNat)) := by
  obtain ⟨a, cap, rfl, hc, hm, h⟩ := h
  rw [byteCells_len] at hc h ⊢
  refine ⟨a, cap, rfl, hc, hm, fun h0 => ?_⟩
  obtain ⟨b, o, rfl, hx⟩ := h h0
  exact ⟨b, o, rfl, fun i x hxx => hx i _ (by rw [byteCells_get, hxx]; rfl)⟩
theorem Vals.sub {w : World} {a : Option Addr} {n cap : Nat} {xs : List Value} (h : Vals w (.slice a n cap) xs) (i j : Nat) (hij : i ≤ j) (hj : j ≤ n) (a' : Option Addr) (cap' : Nat) (ha : i < j → ∀ b o, a = some ⟨b, o, none⟩ → a' = some ⟨b, o + i, none⟩) (hc : j - i ≤ cap') (hm : cap' ≤ maxLen) : Vals w (.slice a' (j - i) cap') ((xs.drop i).take (j - i)) := by
  obtain ⟨a0, cap0, he, hc0, hm0, h⟩ := h
  simp only [Value.slice.injEq] at he
  obtain ⟨rfl, rfl, rfl⟩ := he
  have hl : ((xs.drop i).take (j - i)).length = j - i := by rw [List.length_take, List.length_drop]; omega
  refine ⟨a', cap', by rw [hl], by omega, hm, fun h0 => ?_⟩
  obtain ⟨b, o, rfl, hx⟩ := h (by omega)
  refine ⟨b, o + i, ha (by omega) b o rfl, fun k u hu => ?_⟩
  rw [List.getElem?_take] at hu
  split at hu
  · rw [List.getElem?_drop] at hu
    rw [Nat.add_assoc]
    exact hx (i + k) u hu
  · cases hu
end Go.Q

namespace Go.Proofs.YtacekpdjapgfcaaGreatDoor
open Go Go.RowKit Go.Q
theorem info5 : (Tryz.prog.info? 5).map (fun i => (i.zero, i.size, i.bytes)) = some (some (.int .u8 0), 1, 1) := by kernel_rfl
def CurAt (w : World) (c : Nat) (K : Nat → Prop) (bs : List UInt8) (at_ : Nat) : Prop :=
  ∃ sl, Blk w c 116 #[sl, .int .i64 at_] ∧ Bytes w sl bs ∧ at_ ≤ bs.length ∧ bs.length ≤ 1099511627776 ∧ ¬ K c ∧ Off sl bs.length (fun k => k = c ∨ K k)
theorem CurAt.step {w w' : World} {c : Nat} {K K' S : Nat → Prop} {bs : List UInt8} {i : Nat} (h : CurAt w c K bs i) (f : Fr S w w') (hS : ∀ k, k < w.heap.size → S k → K k) (hK : ∀ k, K' k → K k ∨ w.heap.size ≤ k) : CurAt w' c K' bs i := by
  obtain ⟨sl, B, hv, hi, hl, hc, ho⟩ := h
  have hlt := B.lt
  have hb : BytesK w (fun k => k = c ∨ K k) sl bs := ⟨hv, by rw [byteCells_len]; exact ho⟩
  have hb' := hb.fr (K' := fun k => k = c ∨ K' k) f (fun k hk h => .inr (hS k hk h)) (fun k h => by
    rcases h with h | h
    · exact .inl (.inl h)
    · rcases hK k h with h | h
      · exact .inl (.inr h)
      · exact .inr h)
  refine ⟨sl, B.fr f (fun h => hc (hS c hlt h)), hb'.1, hi, hl, fun h => ?_, by have := hb'.2; rwa [byteCells_len] at this⟩
  rcases hK c h with h | h
  · exact hc h
  · omega
theorem CurAt.old {w w' : World} {c : Nat} {K : Nat → Prop} {bs : List UInt8} {i : Nat} (h : CurAt w c K bs i) (f : Fr (fun _ => False) w w') : CurAt w' c K bs i := h.step f (fun _ _ h => h.elim) (fun _ h => .inl h)
theorem CurAt.lt {w : World} {c : Nat} {K : Nat → Prop} {bs : List UInt8} {i : Nat} (h : CurAt w c K bs i) : c < w.heap.size := by obtain ⟨sl, B, _⟩ := h; exact B.lt
theorem CurAt.le {w : World} {c : Nat} {K : Nat → Prop} {bs : List UInt8} {i : Nat} (h : CurAt w c K bs i) : i ≤ bs.length := by obtain ⟨sl, B, _, hi, _⟩ := h; exact hi
theorem CurAt.small {w : World} {c : Nat} {K : Nat → Prop} {bs : List UInt8} {i : Nat} (h : CurAt w c K bs i) : bs.length ≤ 1099511627776 := by obtain ⟨sl, B, _, _, hl, _⟩ := h; exact hl
theorem CurAt.off {w : World} {c : Nat} {K : Nat → Prop} {bs : List UInt8} {i : Nat} (h : CurAt w c K bs i) : ¬ K c := by obtain ⟨sl, B, _, _, _, hc, _⟩ := h; exact hc
theorem CurAt.set {w : World} {c : Nat} {K : Nat → Prop} {bs : List UInt8} {i : Nat} (h : CurAt w c K bs i) (j : Nat) (hj : j ≤ bs.length) : CurAt (w.setCell ⟨c, 1, none⟩ (.int .i64 j)) c K bs j ∧ Fr (fun k => k = c) w (w.setCell ⟨c, 1, none⟩ (.int .i64 j)) := by
  obtain ⟨sl, B, hv, hi, hl, hc, ho⟩ := h
  have f : Fr (fun k => k = c) w (w.setCell ⟨c, 1, none⟩ (.int .i64 j)) := Fr.setCell (S := fun k => k = c) (p := ⟨c, 1, none⟩) (Fr.refl w) (fun _ => rfl) _
  exact ⟨⟨sl, B.set 1 _, hv.fr f (fun h0 k hk e => ho (by rwa [byteCells_len] at h0) k hk (.inl e)), hj, hl, hc, ho⟩, f⟩
theorem at_any {w : World} {c : Nat} {K : Nat → Prop} {bs : List UInt8} {i : Nat} (h : CurAt w c K bs i) :
    Calls Tryz.prog 28 #[pt c] w fun e w' => e = .returned (.int .i64 i) ∧ w = w' := by
  obtain ⟨sl, B, -⟩ := h
  have e1 := B.cell 1
  simp at e1
  clear B
  go_enter Tryz.func28, Tryz.ntmps28
  go_wp2_with fail
  go_ret
  exact ⟨rfl, rfl⟩
theorem size_any {w : World} {c : Nat} {K : Nat → Prop} {bs : List UInt8} {i : Nat} (h : CurAt w c K bs i) :
    Calls Tryz.prog 111 #[pt c] w fun e w' => e = .returned (.int .i64 bs.length) ∧ w = w' := by
  obtain ⟨sl, B, hv, -⟩ := h
  obtain ⟨a, cap, rfl, -⟩ := hv.form
  have e1 := B.cell 0
  simp at e1
  clear B
  go_enter Tryz.func111, Tryz.ntmps111
  go_wp2_with fail
  go_ret
  exact ⟨rfl, rfl⟩
theorem left_any {w : World} {c : Nat} {K : Nat → Prop} {bs : List UInt8} {i : Nat} (h : CurAt w c K bs i) :
    Calls Tryz.prog 63 #[pt c] w fun e w' => e = .returned (.int .i64 ((bs.length - i : Nat) : Int)) ∧ Fr (fun _ => False) w w' := by
  have H := Lib.hid h
  have hle := h.le
  have hsm := h.small
  obtain ⟨sl, B, -⟩ := h
  have e1 := B.cell 1
  simp at e1
  clear B
  have hw : IntKind.i64.wrap ((bs.length : Int) - (i : Int)) = ((bs.length - i : Nat) : Int) := by simp [IntKind.wrap, IntKind.signed, IntKind.bits]; omega
  go_enter Tryz.func63, Tryz.ntmps63
  go_wp2_with fail
  go_quiet ((go_at_call 111; exact Calls.quiet_of_same ((size_any (H.out.old ((Fr.refl w).drewN (S := fun _ => False) _))).mono (fun _ _ ⟨h1, h2⟩ => ⟨h1, h2.symm⟩))))
  go_wp2_with fail
  go_ret
  exact ⟨rfl, (Fr.refl w).drewN nq⟩
theorem drop_cons {α : Type} {l : List α} {i : Nat} {x : α} {t : List α} (h : l.drop i = x :: t) : l[i]? = some x ∧ i < l.length := by
  have hi : i < l.length := by
    rcases Nat.lt_or_ge i l.length with h1 | h1
    · exact h1
    · rw [List.drop_eq_nil_of_le h1] at h; cases h
  have e := List.drop_eq_getElem_cons hi
  rw [h] at e
  simp only [List.cons.injEq] at e
  exact ⟨by rw [List.getElem?_eq_getElem hi, e.1], hi⟩
theorem drop_nil {α : Type} {l : List α} {i : Nat} (h : l.drop i = []) : l.length ≤ i := by simpa using h
theorem peek_on {w : World} {c : Nat} {K : Nat → Prop} {bs : List UInt8} {i : Nat} (h : CurAt w c K bs i) {x : UInt8} {t : List UInt8} (hd : bs.drop i = x :: t) :
    Calls Tryz.prog 257 #[pt c] w fun e w' => e = .returned (.tuple #[.int .u8 x.toNat, .int .i64 0]) ∧ Fr (fun _ => False) w w' := by
  have H := Lib.hid h
  obtain ⟨hxx, hi⟩ := drop_cons hd
  obtain ⟨sl, B, hv, -⟩ := h
  obtain ⟨a, cap, rfl, hc, hm, hx⟩ := hv.form
  have e0 := B.cell 0
  have e1 := B.cell 1
  simp at e0 e1
  clear B hv hd
  obtain ⟨b, o, rfl, hy⟩ := hx (by omega)
  have ex := hy i x hxx
  clear hx hy hxx
  have q1 : ¬ ((bs.length - i : Nat) : Int) = 0 := by omega
  have q2 : (0 : Int) ≤ (i : Int) := by omega
  have q3 : (i : Int) < (bs.length : Int) := by omega
  go_enter Tryz.func257, Tryz.ntmps257
  go_wp2_with fail
  refine (left_any H.out).mono ?_
  rintro e w' ⟨rfl, F⟩
  replace e0 := F.cell e0 (fun h => h)
  replace e1 := F.cell e1 (fun h => h)
  replace ex := F.cell ex (fun h => h)
  clear H
  go_wp2_with fail
  go_quiet (fail)
  go_wp2_with fail
  exact bodyPost_ret (v := .tuple #[.int .u8 x.toNat, .int .i64 0]) (by simp [results, Tryz.results257, go_sem]) rfl ⟨rfl, F.drewN nq⟩
theorem peek_end {w : World} {c : Nat} {K : Nat → Prop} {bs : List UInt8} {i : Nat} (h : CurAt w c K bs i) (hd : bs.drop i = []) :
    Calls Tryz.prog 257 #[pt c] w fun e w' => e = .returned (.tuple #[.int .u8 0, .int .i64 3]) ∧ Fr (fun _ => False) w w' := by
  have H := Lib.hid h
  have hl := drop_nil hd
  have q1 : ((bs.length - i : Nat) : Int) = 0 := by omega
  clear hd h
  go_enter Tryz.func257, Tryz.ntmps257
  go_wp2_with fail
  refine (left_any H.out).mono ?_
  rintro e w' ⟨rfl, F⟩
  go_wp2_with fail
  exact bodyPost_ret (v := .tuple #[.int .u8 0, .int .i64 3]) (by simp [results, Tryz.results257, go_sem]) rfl ⟨rfl, F⟩
theorem byte_on {w : World} {c : Nat} {K : Nat → Prop} {bs : List UInt8} {i : Nat} (h : CurAt w c K bs i) {x : UInt8} {t : List UInt8} (hd : bs.drop i = x :: t) :
    Calls Tryz.prog 213 #[pt c] w fun e w' => e = .returned (.tuple #[.int .u8 x.toNat, .int .i64 0]) ∧ CurAt w' c K bs (i + 1) ∧ Fr (fun k => k = c) w w' := by
  have H := Lib.hid h
  have HD := Lib.hid hd
  obtain ⟨hxx, hi⟩ := drop_cons hd
  have hsm := h.small
  clear hd h hxx
  go_enter Tryz.func213, Tryz.ntmps213
  go_wp2_with fail
  refine (peek_on H.out HD.out).mono ?_
  rintro e w' ⟨rfl, F⟩
  have C := H.out.old F
  have HC := Lib.hid C
  obtain ⟨sl, B, -⟩ := C
  have e1 := B.cell 1
  have f1 := B.frozen 1
  simp at e1
  have hw : IntKind.i64.wrap ((i : Int) + 1) = ((i + 1 : Nat) : Int) := by simp [IntKind.wrap, IntKind.signed, IntKind.bits]; omega
  clear H HD B
  go_wp2_with fail
  obtain ⟨C2, F2⟩ := HC.out.set (i + 1) (by omega)
  rw [Int.natCast_add, Int.natCast_one] at C2 F2
  exact bodyPost_ret (v := .tuple #[.int .u8 x.toNat, .int .i64 0]) (by simp [results, Tryz.results213, go_sem]) rfl ⟨rfl, C2, (F.mono (fun _ _ h => h.elim)).trans F2⟩
theorem byte_end {w : World} {c : Nat} {K : Nat → Prop} {bs : List UInt8} {i : Nat} (h : CurAt w c K bs i) (hd : bs.drop i = []) :
    Calls Tryz.prog 213 #[pt c] w fun e w' => e = .returned (.tuple #[.int .u8 0, .int .i64 3]) ∧ Fr (fun _ => False) w w' := by
  have H := Lib.hid h
  have HD := Lib.hid hd
  clear hd h
  go_enter Tryz.func213, Tryz.ntmps213
  go_wp2_with fail
  refine (peek_end H.out HD.out).mono ?_
  rintro e w' ⟨rfl, F⟩
  go_wp2_with fail
  exact bodyPost_ret (v := .tuple #[.int .u8 0, .int .i64 3]) (by simp [results, Tryz.results213, go_sem]) rfl ⟨rfl, F⟩
theorem may_ok {w : World} {c : Nat} {K : Nat → Prop} {bs : List UInt8} {i : Nat} (h : CurAt w c K bs i) (n : Nat) (hn : n ≤ bs.length - i) :
    Calls Tryz.prog 69 #[pt c, .int .i64 n] w fun e w' => e = .returned (.int .i64 0) ∧ Fr (fun _ => False) w w' := by
  have H := Lib.hid h
  have q1 : ¬ (n : Int) < 0 := by omega
  have q2 : ¬ ((bs.length - i : Nat) : Int) < (n : Int) := by omega
  clear h
  go_enter Tryz.func69, Tryz.ntmps69
  go_wp2_with fail
  refine (left_any H.out).mono ?_
  rintro e w' ⟨rfl, F⟩
  go_wp2_with fail
  go_ret
  exact ⟨rfl, F⟩
theorem may_end {w : World} {c : Nat} {K : Nat → Prop} {bs : List UInt8} {i : Nat} (h : CurAt w c K bs i) (n : Nat) (hn : bs.length - i < n) :
    Calls Tryz.prog 69 #[pt c, .int .i64 n] w fun e w' => e = .returned (.int .i64 3) ∧ Fr (fun _ => False) w w' := by
  have H := Lib.hid h
  have q1 : ¬ (n : Int) < 0 := by omega
  have q2 : ((bs.length - i : Nat) : Int) < (n : Int) := by omega
  clear h
  go_enter Tryz.func69, Tryz.ntmps69
  go_wp2_with fail
  refine (left_any H.out).mono ?_
  rintro e w' ⟨rfl, F⟩
  go_wp2_with fail
  go_ret
  exact ⟨rfl, F⟩
theorem back_any {w : World} {c : Nat} {K : Nat → Prop} {bs : List UInt8} {i : Nat} (h : CurAt w c K bs i) (j : Nat) (hj : j ≤ i) :
    Calls Tryz.prog 110 #[pt c, .int .i64 j] w fun e w' => e = .returned (.int .i64 0) ∧ CurAt w' c K bs j ∧ Fr (fun k => k = c) w w' := by
  have H := Lib.hid h
  have hle := h.le
  obtain ⟨sl, B, -⟩ := h
  have e1 := B.cell 1
  have f1 := B.frozen 1
  simp at e1
  have q1 : ¬ (j : Int) < 0 := by omega
  have q2 : ¬ (i : Int) < (j : Int) := by omega
  clear B
  go_enter Tryz.func110, Tryz.ntmps110
  go_wp2_with fail
  go_ret
  obtain ⟨C2, F2⟩ := H.out.set j (by omega)
  exact ⟨rfl, C2, F2⟩
theorem byteCells_one (l : List UInt8) : ∀ u ∈ Lib.byteCells l, u.oneCell' = true := by
  intro u hu
  simp only [Lib.byteCells, List.mem_map] at hu
  obtain ⟨x, _, rfl⟩ := hu
  rfl
theorem byteCells_drop (l : List UInt8) (i : Nat) : (Lib.byteCells l).drop i = Lib.byteCells (l.drop i) := by simp [Lib.byteCells, List.map_drop]
theorem byteCells_take (l : List UInt8) (i : Nat) : (Lib.byteCells l).take i = Lib.byteCells (l.take i) := by simp [Lib.byteCells, List.map_take]
theorem make_bytes (n : Nat) (hn : n ≤ 1099511627776) (w : World) : (Instr.makeSlice 23 (.int .i64 n) (.int .i64 n)).run Tryz.prog w = .ok (.slice (some ⟨w.heap.size, 0, none⟩) n n) (w.alloc (.cells (madeCells #[.int .u8 0] n) 5)) := by
  obtain ⟨i0, hi0, hz0, hz1, hz2⟩ := info_parts info5
  have := run_make (P := Tryz.prog) w 23 5 i0 _ Tryz.underlying23 hi0 hz0 .i64 .i64 (n : Int) (n : Int) (by omega) (by omega) (by rw [hz2]; omega) (by omega)
  rw [this]
  simp only [Int.toNat_natCast, hz1, Nat.mul_one]
  rfl
theorem copy_bytes (w : World) (g : Nat) (M : Array Value) (B : Blk w g 5 M) (n : Nat) (hM : M.size = n) (sp : Option Addr) (scap : Nat) (l : List UInt8) (hl : l.length = n)
    (hsrc : 0 < n → ∃ b o, sp = some ⟨b, o, none⟩ ∧ ∀ i x, l[i]? = some x → w.cell? ⟨b, o + i, none⟩ = some (.int .u8 x.toNat)) :
    ∃ w2, (Builtin.copy_ #[23, 23] 3 #[.slice (some ⟨g, 0, none⟩) n n, .slice sp n scap]).run Tryz.prog w = .ok (goInt n) w2 ∧ Blk w2 g 5 (Lib.byteCells l).toArray ∧ Fr (fun k => k = g) w w2 := by
  have hu : Tryz.prog.underlying 23 = some (.slice 5) := Tryz.underlying23
  have hs : (Tryz.prog.info? 5).map (·.size) = some 1 := by kernel_rfl
  rcases Nat.eq_zero_or_pos n with h0 | h0
  · refine ⟨w, ?_, ?_, Fr.refl w⟩
    · rw [run_copy_none (P := Tryz.prog) w 23 23 3 5 _ _ _ _ _ _ hu hs (by simp [h0]), h0]
      rfl
    · obtain rfl : l = [] := List.length_eq_zero_iff.1 (by omega)
      obtain rfl : M = #[] := Array.size_eq_zero_iff.1 (by omega)
      exact B
  · obtain ⟨b, o, rfl, hx⟩ := hsrc h0
    have hr := run_copy_row (P := Tryz.prog) w 23 23 3 5 g 0 n n ⟨b, o, none⟩ n scap M 5 (Lib.byteCells l) hu hs B (by rw [byteCells_len, hl]; simp) (fun j v hj => by
        rw [byteCells_get] at hj
        cases hlj : l[j]? with
        | none => rw [hlj] at hj; cases hj
        | some x =>
          rw [hlj] at hj
          simp only [Option.map_some, Option.some.injEq] at hj
          subst hj
          have := hx j x hlj
          rw [show (⟨b, o, none⟩ : Addr).add j = ⟨b, o + j, none⟩ from by unfold Addr.add; split <;> simp_all]
          exact this) (by rw [byteCells_len]; omega) (byteCells_one l)
    rw [byteCells_len, hl] at hr
    have he : (M.toList.take 0 ++ Lib.byteCells l ++ M.toList.drop (0 + n)).toArray = (Lib.byteCells l).toArray := by
      rw [List.take_zero, List.nil_append, Nat.zero_add, List.drop_eq_nil_of_le (by simp [hM]), List.append_nil]
    rw [he] at hr
    exact ⟨_, hr, setRow_heap w g M _ _ (0, 0) B, ⟨rfl, rfl, rfl, by simp [World.setRow], fun k _ hk => setRow_other w g k _ hk⟩⟩
theorem own_le {w : World} {base base' : Nat} {e : TypeId} {size n : Nat} {v : Value} {xs : List Value} (h : w.ownsRow base e size v n xs) (hb : base' ≤ base) : w.ownsRow base' e size v n xs := by
  refine ⟨h.1, ?_⟩
  rcases h.2 with h | ⟨g, cap, cur, r, hg, h⟩
  · exact .inl h
  · exact .inr ⟨g, cap, cur, r, Nat.le_trans hb hg, h⟩
theorem ownsRow_fr {S : Nat → Prop} {w w' : World} {base : Nat} {e : TypeId} {size n : Nat} {v : Value} {xs : List Value} (h : w.ownsRow base e size v n xs) (f : Fr S w w') (hS : ∀ k, v.ownBlock = some k → ¬ S k) : w'.ownsRow base e size v n xs := by
  refine ⟨h.1, ?_⟩
  rcases h.2 with h | ⟨g, cap, cur, rfl, hg, hh, h⟩
  · exact .inl h
  · exact .inr ⟨g, cap, cur, rfl, hg, (f.block g (Array.getElem?_eq_some_iff.1 hh).1 (hS g rfl)).trans hh, h⟩
theorem own_bytes {w : World} {g : Nat} {l : List UInt8} (B : Blk w g 5 (Lib.byteCells l).toArray) (hl : l.length ≤ 1099511627776) (base : Nat) (hb : base ≤ g) : w.ownsRow base 5 1 (.slice (some ⟨g, 0, none⟩) l.length l.length) l.length (Lib.byteCells l) := by
  have hm : l.length ≤ maxLen := by unfold maxLen; omega
  have := own_block B l.length (by simp [byteCells_len]) (by simpa [byteCells_len] using hm) base hb
  rw [List.toList_toArray, List.take_of_length_le (by rw [byteCells_len]; exact Nat.le_refl _)] at this
  simpa [byteCells_len] using this
set_option maxRecDepth 20000 in
theorem cut_any {w : World} {c : Nat} {K : Nat → Prop} {bs : List UInt8} {k : Nat} (h : CurAt w c K bs k) (i n : Nat) (hj : i + n ≤ bs.length) :
    Calls Tryz.prog 70 #[pt c, .int .i64 i, .int .i64 ((i : Int) + (n : Int))] w fun e w' => ∃ v, e = .returned v ∧ w'.ownsRow w.heap.size 5 1 v n (Lib.byteCells ((bs.drop i).take n)) ∧ Fr (fun _ => False) w w' := by
  have hle := h.le
  have hsm := h.small
  obtain ⟨sl, B, hv, -⟩ := h
  obtain ⟨a, cap, rfl, hc, hm, hx⟩ := hv.form
  have e0 := B.cell 0
  have lb := B.lt
  simp at e0
  have hw : IntKind.i64.wrap ((i : Int) + (n : Int) - (i : Int)) = (n : Int) := by simp [IntKind.wrap, IntKind.signed, IntKind.bits]; omega
  have hw2 : IntKind.i64.wrap (n : Int) = (n : Int) := by simp [IntKind.wrap, IntKind.signed, IntKind.bits]; omega
  obtain ⟨M, hM, hmk⟩ : ∃ M : Array Value, M.size = n ∧ (Instr.makeSlice 23 (.int .i64 (n : Int)) (.int .i64 (n : Int))).run Tryz.prog w = .ok (.slice (some ⟨w.heap.size, 0, none⟩) n n) (w.alloc (.cells M 5)) :=
    ⟨_, size_madeCells _ _, make_bytes n (by omega) w⟩
  have HM := Lib.hid hM
  have q1 : (0 : Int) ≤ (i : Int) := by omega
  have q2 : (i : Int) ≤ (i : Int) + (n : Int) := by omega
  have q3 : (i : Int) + (n : Int) ≤ (cap : Int) := by omega
  have hal := alloc_old
  have HX := Lib.hid hx
  clear hx B hv hM
  go_enter Tryz.func70, Tryz.ntmps70
  go_upto_region 2 with fail
  have F1 : Fr (fun _ => False) w (w.alloc (.cells M 5)) := (Fr.refl w).alloc _
  have BM : Blk (w.alloc (.cells M 5)) w.heap.size 5 M := Blk.new w _ _
  replace e0 := F1.cell e0 (fun h => h)
  have HB := Lib.hid BM
  have HF := Lib.hid F1
  obtain ⟨g, hg⟩ : ∃ g, g = w.heap.size := ⟨_, rfl⟩
  rw [← hg] at HB ⊢
  have HGG := Lib.hid hg
  clear hal hmk lb BM F1 hg
  generalize (w.alloc (.cells M 5)) = w1 at *
  obtain ⟨l, hl⟩ : ∃ l, l = (bs.drop i).take n := ⟨_, rfl⟩
  have hll : l.length = n := by rw [hl, List.length_take, List.length_drop]; omega
  have hsrc : ∀ sp : Option Addr, (0 < n → sp = a.map fun x => x.add i) → (0 < n → ∃ b o, sp = some ⟨b, o, none⟩ ∧ ∀ i x, l[i]? = some x → w1.cell? ⟨b, o + i, none⟩ = some (.int .u8 x.toNat)) := fun sp hsp h0 => by
    obtain ⟨b, o, rfl, hy⟩ := HX.out (by omega)
    refine ⟨b, o + i, by rw [hsp h0]; unfold Addr.add; simp, fun m x hm => ?_⟩
    rw [hl, List.getElem?_take] at hm
    split at hm
    · rw [List.getElem?_drop] at hm
      rw [Nat.add_assoc]
      exact HF.out.cell (hy (i + m) x hm) (fun h => h)
    · cases hm
  have HS := Lib.hid hsrc
  have HLL := Lib.hid hl
  have HL := Lib.hid hll
  clear hsrc hl hll
  go_wp2_with fail
  case' inl h =>
    obtain ⟨w2, hr, B2, F2⟩ := copy_bytes w1 g M HB.out n HM.out a 0 l HL.out (HS.out a (fun h => by omega))
  case' inr h =>
    obtain ⟨w2, hr, B2, F2⟩ := copy_bytes w1 g M HB.out n HM.out (a.map fun x => x.add i) (cap - i) l HL.out (HS.out _ (fun _ => rfl))
  all_goals
    rw [hr]
    go_wp2_with fail
    go_ret
    have ho := own_bytes B2 (by rw [HL.out]; omega) w.heap.size (by rw [HGG.out]; exact Nat.le_refl _)
    rw [HL.out, HLL.out] at ho
    exact ⟨_, rfl, ho, HF.out.trans' F2 (fun k hk e => absurd hk (by rw [e, HGG.out]; exact Nat.lt_irrefl _))⟩
set_option maxRecDepth 20000 in
theorem take_ok {w : World} {c : Nat} {K : Nat → Prop} {bs : List UInt8} {i : Nat} (h : CurAt w c K bs i) (n : Nat) (hn : n ≤ bs.length - i) :
    Calls Tryz.prog 18 #[pt c, .int .i64 n] w fun e w' => ∃ v, e = .returned (.tuple #[v, .int .i64 0]) ∧ w'.ownsRow w.heap.size 5 1 v n (Lib.byteCells ((bs.drop i).take n)) ∧ CurAt w' c K bs (i + n) ∧ Fr (fun k => k = c) w w' := by
  have H := Lib.hid h
  have hle := h.le
  have hsm := h.small
  obtain ⟨r, hr⟩ : ∃ r, r = Lib.byteCells ((bs.drop i).take n) := ⟨_, rfl⟩
  have HR := Lib.hid hr
  have hw : IntKind.i64.wrap ((i : Int) + (n : Int)) = (i : Int) + (n : Int) := by simp [IntKind.wrap, IntKind.signed, IntKind.bits]; omega
  clear h hr
  go_enter Tryz.func18, Tryz.ntmps18
  go_wp2_with fail
  refine (may_ok H.out n hn).mono ?_
  rintro e w1 ⟨rfl, F1⟩
  go_upto_region 4 with fail
  have C1 := H.out.old F1
  have HC := Lib.hid (C1.old (Fr.refl w1).drew)
  obtain ⟨sl, B, -⟩ := C1
  replace B := B.drew
  have F2 : Fr (fun _ => False) w w1.drew := F1.drew
  clear F1 H
  go_region_held3 (fun w' => ∀ j, w'.cell? ⟨c, j, none⟩ = (#[sl, .int .i64 i] : Array Value)[j]?) (exact B.cell) (first
    | (go_at_call 70; refine (cut_any HC.out i n (by omega)).mono ?_; rintro e w' ⟨v, rfl, ho, F⟩; replace B := B.fr F (fun h => h); have C3 := HC.out.old F))
  have HO := Lib.hid ho
  have HC3 := Lib.hid C3
  have e1 := B.cell 1
  have f1 := B.frozen 1
  simp at e1
  have hv := Lib.hid (Vals.of_own ho)
  clear ho C3
  go_wp2_with fail
  obtain ⟨C4, F4⟩ := HC3.out.set (i + n) (by omega)
  rw [Int.natCast_add] at C4 F4
  have hne : ∀ k, v.ownBlock = some k → k ≠ c := fun k hk e => by
    have h1 := (hv.out.2 k hk).1
    have h2 := HC.out.lt
    omega
  refine bodyPost_ret (v := .tuple #[v, .int .i64 0]) (by simp [results, Tryz.results18, go_sem]) rfl ⟨v, rfl, ?_, C4, ((F2.trans F).mono (fun _ _ h => h.elim)).trans F4⟩
  have ho2 := ownsRow_fr HO.out F4 (fun k hk e => hne k hk e)
  have hb : w.heap.size ≤ w1.drew.heap.size := F2.size
  exact own_le ho2 hb
theorem take_end {w : World} {c : Nat} {K : Nat → Prop} {bs : List UInt8} {i : Nat} (h : CurAt w c K bs i) (n : Nat) (hn : bs.length - i < n) :
    Calls Tryz.prog 18 #[pt c, .int .i64 n] w fun e w' => e = .returned (.tuple #[.slice none 0 0, .int .i64 3]) ∧ Fr (fun _ => False) w w' := by
  have H := Lib.hid h
  clear h
  go_enter Tryz.func18, Tryz.ntmps18
  go_wp2_with fail
  refine (may_end H.out n hn).mono ?_
  rintro e w1 ⟨rfl, F1⟩
  go_wp2_with fail
  exact bodyPost_ret (v := .tuple #[.slice none 0 0, .int .i64 3]) (by simp [results, Tryz.results18, go_sem]) rfl ⟨rfl, F1⟩
set_option maxRecDepth 20000 in
theorem new_any (w : World) (v : Value) (l : List UInt8) (h : Bytes w v l) (hl : l.length ≤ 1099511627776) :
    Calls Tryz.prog 17 #[v] w fun e w' => e = .returned (pt w.heap.size) ∧ CurAt w' w.heap.size (fun k => k < w.heap.size) l 0 ∧ Fr (fun _ => False) w w' := by
  obtain ⟨a, cap, rfl, hc, hm, hx⟩ := h.form
  have HX := Lib.hid hx
  obtain ⟨M, hM, hmk⟩ : ∃ M : Array Value, M.size = l.length ∧ ∀ w : World, (Instr.makeSlice 23 (.int .i64 (l.length : Int)) (.int .i64 (l.length : Int))).run Tryz.prog w = .ok (.slice (some ⟨w.heap.size, 0, none⟩) l.length l.length) (w.alloc (.cells M 5)) :=
    ⟨_, size_madeCells _ _, fun w => make_bytes l.length hl w⟩
  have HM := Lib.hid hM
  clear hx hM h
  go_enter Tryz.func17, Tryz.ntmps17
  go_upto_region 3 with fail
  obtain ⟨c, hcc⟩ : ∃ c, c = w.heap.size := ⟨_, rfl⟩
  have B1 := (Blk.new w 116 #[.slice (some ⟨w.heap.size + 1, 0, none⟩) l.length l.length, .int .i64 0]).alloc (.cells M 5)
  have B2 := Blk.new (w.alloc (.cells #[.slice (some ⟨w.heap.size + 1, 0, none⟩) l.length l.length, .int .i64 0] 116)) 5 M
  have F1 : Fr (fun _ => False) w ((w.alloc (.cells #[.slice (some ⟨w.heap.size + 1, 0, none⟩) l.length l.length, .int .i64 0] 116)).alloc (.cells M 5)) := ((Fr.refl w).alloc _).alloc _
  rw [World.size_alloc] at B2
  rw [← hcc] at B1 B2 F1 ⊢
  generalize ((w.alloc (.cells #[.slice (some ⟨c + 1, 0, none⟩) l.length l.length, .int .i64 0] 116)).alloc (.cells M 5)) = w1 at *
  have e0 := B1.cell 0
  simp at e0
  obtain ⟨w2, hr, B3, F3⟩ := copy_bytes w1 (c + 1) M B2 l.length HM.out a cap l rfl (fun h0 => by
    obtain ⟨b, o, rfl, hy⟩ := HX.out h0
    exact ⟨b, o, rfl, fun i x hx => F1.cell (hy i x hx) (fun h => h)⟩)
  have HCC := Lib.hid hcc
  have B4 := B1.fr F3 (by omega)
  have HF := Lib.hid (F1.trans' F3 (fun k hk e => absurd hk (by rw [e, hcc]; omega)))
  have hm2 : l.length ≤ maxLen := by unfold maxLen; omega
  have hcur : CurAt w2 c (fun k => k < w.heap.size) l 0 := by
    refine ⟨_, B4, ⟨_, l.length, by rw [byteCells_len], by rw [byteCells_len]; exact Nat.le_refl _, hm2, fun _ => ⟨c + 1, 0, rfl, fun i u hu => ?_⟩⟩, Nat.zero_le _, hl, by omega, fun _ k hk => ?_⟩
    · rw [Nat.zero_add, B3.cell]
      simpa using hu
    · simp only [Value.ownBlock, Option.some.injEq] at hk
      omega
  have HCU := Lib.hid hcur
  clear hmk hcc B1 B2 F1 B3 F3 B4 hcur
  go_wp2_with fail
  go_ret
  have hcc := HCC.out
  subst hcc
  exact ⟨rfl, HCU.out, HF.out⟩
end Go.Proofs.YtacekpdjapgfcaaGreatDoor

namespace Go.Q
open Go Go.RowKit
theorem Fr.of_grown {w w' : World} {row : Option Nat} (h : w.grownBy w' row) : Fr (fun k => row = some k) w w' :=
  ⟨h.os, h.tape, h.output, h.size, fun k hk hS => h.block k hk (fun e => hS e.symm)⟩
section
variable {P : Program}
theorem wpList_append_run {w : World} {ops : Array Oper} {rest : List Oper} {o : Oper} {a : Act} {Q : Exit → Act → World → Prop} (hgd : o.guard = none) (s x : Operand) (t : TypeId)
    (ho : o.op = .call { callee := .builtin .append, args := #[s, x], argTypes := #[t, t] }) (v' : Value) (w' : World)
    (hr : (Builtin.append_ #[t, t] o.type #[a.eval s, a.eval x]).run P w = .ok v' w') (h : wpList P ops Q rest (a.put o.dst v') w') : wpList P ops Q (o :: rest) a w := by
  refine wpList_plain hgd fun K hK => ?_
  unfold Oper.wp
  simp [execOp, ho, resolve, invoke, builtin, hr, Result.andThen]
  exact hK _ _ h
theorem step_append_run {ops : Array Oper} {o : Oper} {a : Act} {w : World} {K : Act → World → Prop} {Q : Exit → Act → World → Prop} {E : Prop} (hgd : o.guard = none) (s x : Operand) (t : TypeId)
    (ho : o.op = .call { callee := .builtin .append, args := #[s, x], argTypes := #[t, t] }) (v' : Value) (w' : World)
    (hr : (Builtin.append_ #[t, t] o.type #[a.eval s, a.eval x]).run P w = .ok v' w') (h : K (a.put o.dst v') w') : if Region.wanted o (yielded ops a.tmps) = true then Oper.wp P o a w K Q else E := by
  have hw : Region.wanted o (yielded ops a.tmps) = true := by simp [Region.wanted, hgd]
  rw [if_pos hw]
  unfold Oper.wp
  simp [execOp, ho, resolve, invoke, builtin, hr, Result.andThen]
  exact h
end
end Go.Q
namespace Go.Proofs.YtacekpdjapgfcaaGreatDoor
open Go Go.RowKit Go.Q
theorem byteCells_append (a b : List UInt8) : Lib.byteCells (a ++ b) = Lib.byteCells a ++ Lib.byteCells b := by simp [Lib.byteCells]
theorem append_bytes {w : World} {base n : Nat} {v : Value} {xs : List UInt8} (hown : w.ownsRow base 5 1 v n (Lib.byteCells xs)) (sp : Option Addr) (m c : Nat) (l : List UInt8) (hsrc : Bytes w (.slice sp m c) l) (hsz : n + m ≤ 4398046511104) (hb : base ≤ w.heap.size) :
    ∃ v' w', (Builtin.append_ #[23, 23] 23 #[v, .slice sp m c]).run Tryz.prog w = .ok v' w' ∧ w'.ownsRow base 5 1 v' (n + m) (Lib.byteCells (xs ++ l)) ∧ Fr (fun k => v.ownBlock = some k) w w' ∧ (v'.ownBlock = v.ownBlock ∨ v'.ownBlock = some w.heap.size) := by
  obtain ⟨i0, hi0, hz0, hz1, hz2⟩ := info_parts info5
  obtain ⟨a, cap, he, hc, hm, hx⟩ := hsrc
  rw [byteCells_len] at he hc hx
  simp only [Value.slice.injEq] at he
  obtain ⟨rfl, rfl, rfl⟩ := he
  rw [byteCells_append]
  cases sp with
  | none =>
    have hl : l.length = 0 := by
      rcases Nat.eq_zero_or_pos l.length with h | h
      · exact h
      · obtain ⟨b, o, h, _⟩ := hx h
        cases h
    obtain rfl : l = [] := List.length_eq_zero_iff.1 hl
    have hr : (Builtin.append_ #[23, 23] 23 #[v, .slice none 0 c]).run Tryz.prog w = .ok v w := by
      rcases hown.2 with ⟨rfl, rfl⟩ | ⟨g, cap, cur, rfl, _, _, hnc, _⟩
      · simp [Builtin.append_, run_underlying (P := Tryz.prog) (w := w) Tryz.underlying23, sizeOf, typeInfo, hi0, Builtin.lenOf, Builtin.firstCells]
      · simp [Builtin.append_, run_underlying (P := Tryz.prog) (w := w) Tryz.underlying23, sizeOf, typeInfo, hi0, Builtin.lenOf, Builtin.firstCells, hnc, storeCells]
    refine ⟨v, w, hr, ?_, Fr.refl w, .inl rfl⟩
    simpa [Lib.byteCells] using hown
  | some ad =>
    obtain ⟨v', w', hr, h1, h2, _, h3⟩ := run_append_own_at (P := Tryz.prog) w base 23 23 5 i0 _ 1 1 Tryz.underlying23 hi0 hz0 hz1 hz2 rfl (by decide) v n (Lib.byteCells xs) hown ad l.length c (Lib.byteCells l) (by rw [byteCells_len, Nat.mul_one]) (fun j u hu => by
      have hj : j < l.length := by rw [← byteCells_len l]; exact (List.getElem?_eq_some_iff.1 hu).1
      obtain ⟨b, o, h, hy⟩ := hx (by omega)
      cases h
      rw [show (⟨b, o, none⟩ : Addr).add j = ⟨b, o + j, none⟩ from by unfold Addr.add; split <;> simp_all]
      exact hy j u hu) (byteCells_one l) (by unfold maxLen; omega) (by omega) hb
    exact ⟨v', w', hr, h1, Fr.of_grown h2, h3⟩
end Go.Proofs.YtacekpdjapgfcaaGreatDoor

namespace Go.Q
open Go Go.RowKit
def intCells (l : List Int) : List Value := l.map (Value.int .i64)
theorem intCells_len (l : List Int) : (intCells l).length = l.length := by simp [intCells]
theorem intCells_get (l : List Int) (i : Nat) : (intCells l)[i]? = l[i]?.map (Value.int .i64) := by simp [intCells]
abbrev Ints (w : World) (v : Value) (l : List Int) : Prop := Vals w v (intCells l)
theorem Ints.form {w : World} {v : Value} {l : List Int} (h : Ints w v l) : ∃ a cap, v = .slice a l.length cap ∧ l.length ≤ cap ∧ cap ≤ maxLen ∧ (0 < l.length → ∃ b o, a = some ⟨b, o, none⟩ ∧ ∀ i x, l[i]? = some x → w.cell? ⟨b, o + i, none⟩ = some (.int .i64 x)) := by
  obtain ⟨a, cap, rfl, hc, hm, h⟩ := h
  rw [intCells_len] at hc h ⊢
  refine ⟨a, cap, rfl, hc, hm, fun h0 => ?_⟩
  obtain ⟨b, o, rfl, hx⟩ := h h0
  exact ⟨b, o, rfl, fun i x hxx => hx i _ (by rw [intCells_get, hxx]; rfl)⟩
theorem Vals.of_block {w : World} {g : Nat} {t : TypeId} {cs : Array Value} (B : Blk w g t cs) (hm : cs.size ≤ maxLen) : Vals w (.slice (some ⟨g, 0, none⟩) cs.size cs.size) cs.toList :=
  ⟨_, cs.size, by simp, by simp, hm, fun _ => ⟨g, 0, rfl, fun i u hu => by rw [Nat.zero_add, B.cell]; simpa using hu⟩⟩
theorem own_shape {w : World} {base n size : Nat} {e : TypeId} {v : Value} {xs : List Value} (h : w.ownsRow base e size v n xs) : ∃ a m c, v = .slice a m c ∧ m = n := by
  rcases h.2 with ⟨rfl, h0⟩ | ⟨g, cap, cur, rfl, _⟩
  · exact ⟨none, 0, 0, rfl, h0.symm⟩
  · exact ⟨_, n, cap, rfl, rfl⟩
section
variable {P : Program}
abbrev Info (P : Program) (e : TypeId) (z : Value) (size bytes : Nat) : Prop := (P.info? e).map (fun i => (i.zero, i.size, i.bytes)) = some (some z, size, bytes)
theorem append_gen {w : World} {base n : Nat} {t e : TypeId} {v : Value} {xs : List Value} {z : Value} {size bytes : Nat} (hu : P.underlying t = some (.slice e)) (hinf : Info P e z size bytes) (hzs : z.cells.size = size) (hs0 : 0 < size) (hby : bytes ≤ 64)
    (hown : w.ownsRow base e size v n xs) (hb : base ≤ w.heap.size) (a : Addr) (m c : Nat) (news : List Value) (hl : news.length = m * size) (hnews : ∀ j u, news[j]? = some u → w.cell? (a.add j) = some u) (h1 : ∀ u ∈ news, u.oneCell' = true) (hsz : n + m ≤ 1099511627776) :
    ∃ a' c' w', (Builtin.append_ #[t, t] t #[v, .slice (some a) m c]).run P w = .ok (.slice a' (n + m) c') w' ∧ w'.ownsRow base e size (.slice a' (n + m) c') (n + m) (xs ++ news) ∧ Fr (fun k => v.ownBlock = some k) w w' ∧ (∀ k, (Value.slice a' (n + m) c').ownBlock = some k → v.ownBlock = some k ∨ w.heap.size ≤ k) := by
  obtain ⟨i0, hi0, hz0, hz1, hz2⟩ := info_parts hinf
  obtain ⟨v', w', hr, h2, h3, _, h4⟩ := run_append_own_at (P := P) w base t t e i0 z size bytes hu hi0 hz0 hz1 hz2 hzs hs0 v n xs hown a m c news hl hnews h1 (by unfold maxLen; omega) (Nat.le_trans (Nat.mul_le_mul hsz hby) (by decide)) hb
  obtain ⟨a', m', c', rfl, rfl⟩ := own_shape h2
  refine ⟨a', c', w', hr, h2, Fr.of_grown h3, fun k hk => ?_⟩
  rcases h4 with h | h
  · exact .inl (h.symm.trans hk)
  · rw [h] at hk
    simp only [Option.some.injEq] at hk
    exact .inr (by omega)
theorem add_gen {w wa : World} {base n : Nat} {t e : TypeId} {v : Value} {xs : List Value} {z : Value} {size bytes : Nat} (hu : P.underlying t = some (.slice e)) (hinf : Info P e z size bytes) (hzs : z.cells.size = size) (hs0 : 0 < size) (hby : bytes ≤ 64)
    (hown : w.ownsRow base e size v n xs) (hb : base ≤ w.heap.size) (F1 : Fr (fun _ => False) w wa) (g : Nat) (cs : List Value) (hcs : cs.length = size) (BX : Blk wa g e cs.toArray) (h1 : ∀ u ∈ cs, u.oneCell' = true) (hn : n ≤ 109951162777) :
    ∃ a' c' w', (Builtin.append_ #[t, t] t #[v, .slice (some ⟨g, 0, none⟩) 1 1]).run P wa = .ok (.slice a' (n + 1) c') w' ∧ w'.ownsRow base e size (.slice a' (n + 1) c') (n + 1) (xs ++ cs) ∧ Fr (fun k => v.ownBlock = some k) w w' ∧ (∀ k, (Value.slice a' (n + 1) c').ownBlock = some k → v.ownBlock = some k ∨ w.heap.size ≤ k) := by
  obtain ⟨a', c', w', hr, h2, F2, h3⟩ := append_gen hu hinf hzs hs0 hby (Go.Proofs.YtacekpdjapgfcaaGreatDoor.ownsRow_fr hown F1 (fun _ _ h => h)) (Nat.le_trans hb F1.size) ⟨g, 0, none⟩ 1 1 cs (by rw [hcs, Nat.one_mul]) (fun j u hj => by
    rw [show (⟨g, 0, none⟩ : Addr).add j = ⟨g, 0 + j, none⟩ from by unfold Addr.add; split <;> simp_all, BX.cell, Nat.zero_add]
    simpa using hj) h1 (by omega)
  refine ⟨a', c', w', hr, h2, (F1.mono (fun _ _ h => h.elim)).trans F2, fun k hk => ?_⟩
  rcases h3 k hk with h | h
  · exact .inl h
  · exact .inr (Nat.le_trans F1.size h)
end
theorem intCells_one (l : List Int) : ∀ u ∈ intCells l, u.oneCell' = true := by
  intro u hu
  simp only [intCells, List.mem_map] at hu
  obtain ⟨x, _, rfl⟩ := hu
  rfl
theorem intCells_append (a b : List Int) : intCells (a ++ b) = intCells a ++ intCells b := by simp [intCells]
end Go.Q
namespace Go.Proofs.YtacekpdjapgfcaaGreatDoor
open Go Go.RowKit Go.Q
theorem info3 : (Tryz.prog.info? 3).map (fun i => (i.zero, i.size, i.bytes)) = some (some (.int .i64 0), 1, 8) := by kernel_rfl
theorem info9 : (Tryz.prog.info? 9).map (fun i => (i.zero, i.size, i.bytes)) = some (some (.string ⟨#[]⟩), 1, 16) := by kernel_rfl
theorem add_int {w wa : World} {base m : Nat} {v : Value} {xs : List Int} (hown : w.ownsRow base 3 1 v m (intCells xs)) (hb : base ≤ w.heap.size) (hm : m ≤ 109951162777) (x : Int) (g : Nat) (F1 : Fr (fun _ => False) w wa) (BX : Blk wa g 3 #[.int .i64 x]) :
    ∃ a c w', (Builtin.append_ #[105, 105] 105 #[v, .slice (some ⟨g, 0, none⟩) 1 1]).run Tryz.prog wa = .ok (.slice a (m + 1) c) w' ∧ w'.ownsRow base 3 1 (.slice a (m + 1) c) (m + 1) (intCells (xs ++ [x])) ∧ Fr (fun k => v.ownBlock = some k) w w' ∧ (∀ k, (Value.slice a (m + 1) c).ownBlock = some k → v.ownBlock = some k ∨ w.heap.size ≤ k) := by
  rw [intCells_append]
  exact add_gen Tryz.underlying105 info3 rfl (by decide) (by decide) hown hb F1 g [.int .i64 x] rfl BX (by simp [Value.oneCell']) hm
end Go.Proofs.YtacekpdjapgfcaaGreatDoor

namespace Go.Q
open Go Go.RowKit
theorem and127 (x : UInt8) : bits .and .u8 (x.toNat : Int) 127 = ((x.toNat % 128 : Nat) : Int) := by
  have := x.toNat_lt
  have h := u8_and_nat x.toNat 127 (by omega) (by omega)
  rw [nat_mask7] at h
  exact h
theorem and31 (x : UInt8) : bits .and .u8 (x.toNat : Int) 31 = ((x.toNat % 32 : Nat) : Int) := by
  have := x.toNat_lt
  have h := u8_and_nat x.toNat 31 (by omega) (by omega)
  rw [nat_mask5] at h
  exact h
theorem and15 (x : UInt8) : bits .and .u8 (x.toNat : Int) 15 = ((x.toNat % 16 : Nat) : Int) := by
  have := x.toNat_lt
  have h := u8_and_nat x.toNat 15 (by omega) (by omega)
  rw [nat_mask4] at h
  exact h
theorem and32 (x : UInt8) : bits .and .u8 (x.toNat : Int) 32 = ((x.toNat / 32 % 2 * 32 : Nat) : Int) := by
  have := x.toNat_lt
  have h := u8_and_nat x.toNat 32 (by omega) (by omega)
  rw [show (32 : Nat) = 2 ^ 5 from rfl, nat_bit] at h
  exact h
theorem wraps_i62 : ∀ n : Int, 0 ≤ n → n < 2 ^ 62 → IntKind.i64.wrap n = n := by
  intro n h0 h1
  rw [IntKind.wrap_i64]
  omega
theorem or7 (m r : Nat) (hm : m * 128 < 4611686018427387904) (hr : r < 128) : bits .or .i64 ((m : Int) * 128) (r : Int) = ((m * 128 + r : Nat) : Int) := by
  have h := (bits_nat .i64 62 (by decide) wraps_i62 (m * 128) r (by omega) (by omega)).2
  rw [nat_join 7 (m * 128) r (by omega) (by omega)] at h
  rw [← h]
  simp
theorem or8 (m r : Nat) (hm : m * 256 < 4611686018427387904) (hr : r < 256) : bits .or .i64 ((m : Int) * 256) (r : Int) = ((m * 256 + r : Nat) : Int) := by
  have h := (bits_nat .i64 62 (by decide) wraps_i62 (m * 256) r (by omega) (by omega)).2
  rw [nat_join 8 (m * 256) r (by omega) (by omega)] at h
  rw [← h]
  simp
theorem wrap_nat (n : Nat) (h : n < 9223372036854775808) : wrap64 (n : Int) = (n : Int) := by unfold wrap64; omega
end Go.Q

namespace Go.Q
open Go
structure Tag where
  cls : Int
  num : Int
  made : Bool
  deriving DecidableEq
def tagOf (n : Int) : Tag := ⟨0, n, n == 16 || n == 17⟩
def numS : Nat → Nat → List UInt8 → Except Int (Nat × Nat)
  | _, _, [] => .error 3
  | i, n, x :: t => if (i = 0 ∧ x.toNat = 128) ∨ i = 3 then .error 4 else if x.toNat < 128 then (if n * 128 + x.toNat % 128 < 31 then .error 4 else .ok (n * 128 + x.toNat % 128, i + 1)) else numS (i + 1) (n * 128 + x.toNat % 128) t
def readTagS : List UInt8 → Except Int (Tag × Nat)
  | [] => .error 3
  | x :: t => if x.toNat % 32 < 31 then .ok (⟨x.toNat / 64, x.toNat % 32, decide (x.toNat / 32 % 2 = 1)⟩, 1) else
    match numS 0 0 t with
    | .error e => .error e
    | .ok (n, k) => .ok (⟨x.toNat / 64, n, decide (x.toNat / 32 % 2 = 1)⟩, k + 1)
def beS (l : List UInt8) : Nat := l.foldl (fun k x => k * 256 + x.toNat) 0
def longS (n : Nat) (l : List UInt8) : Except Int (Nat × Nat) :=
  if l.length < n then .error 3 else if l.head?.map (·.toNat) = some 0 ∨ beS (l.take n) < 128 then .error 5 else if 16777216 < beS (l.take n) then .error 2 else .ok (beS (l.take n), n + 1)
def readLenS : List UInt8 → Except Int (Nat × Nat)
  | [] => .error 3
  | x :: t => if x.toNat < 128 then .ok (x.toNat, 1) else if x.toNat = 128 ∨ 132 < x.toNat then .error 5 else longS (x.toNat - 128) t
def readS (l : List UInt8) : Except Int (Tag × Nat × Nat) :=
  match readTagS l with
  | .error e => .error e
  | .ok (t, k) =>
    match readLenS (l.drop k) with
    | .error e => .error e
    | .ok (n, m) => .ok (t, n, k + m)
def openS (t : Tag) (l : List UInt8) : Except Int (List UInt8 × Nat) :=
  match readS l with
  | .error e => .error e
  | .ok (u, n, k) => if u ≠ t then .error 4 else if l.length - k < n then .error 3 else .ok ((l.drop k).take n, k + n)
def oneS (l : List UInt8) : Except Int (Tag × Nat × Nat) :=
  match readS l with
  | .error e => .error e
  | .ok (u, n, k) => if l.length - k < n then .error 3 else .ok (u, k, k + n)
def wholesS : Nat → List UInt8 → Except Int (List (List UInt8))
  | _, [] => .ok []
  | 0, _ :: _ => .error 3
  | fuel + 1, x :: t =>
    match oneS (x :: t) with
    | .error e => .error e
    | .ok (_, _, k) =>
      match wholesS fuel ((x :: t).drop k) with
      | .error e => .error e
      | .ok l => .ok ((x :: t).take k :: l)
def tagByte (t : Tag) : UInt8 := UInt8.ofNat ((t.cls * 64 + (if t.made then 32 else 0) + t.num).toNat)
def lenBytes (n : Nat) : List UInt8 :=
  if n < 128 then [UInt8.ofNat n] else if n < 256 then [129, UInt8.ofNat n] else if n < 65536 then [130, UInt8.ofNat (n / 256), UInt8.ofNat (n % 256)] else
  if n < 16777216 then [131, UInt8.ofNat (n / 65536), UInt8.ofNat (n / 256 % 256), UInt8.ofNat (n % 256)] else [132, UInt8.ofNat (n / 16777216), UInt8.ofNat (n / 65536 % 256), UInt8.ofNat (n / 256 % 256), UInt8.ofNat (n % 256)]
def wrapS (t : Tag) (l : List UInt8) : List UInt8 := tagByte t :: (lenBytes l.length ++ l)
end Go.Q
namespace Go.Q
def tagGood (t : Tag) : Prop := (0 ≤ t.cls ∧ t.cls < 4) ∧ 0 ≤ t.num ∧ t.num < 31
theorem u8' (n : Nat) (h : n < 256) : (UInt8.ofNat n).toNat = n := by simp; omega
theorem wrap_len (t : Tag) (l : List UInt8) : (wrapS t l).length = 1 + (lenBytes l.length).length + l.length := by
  simp [wrapS]; omega
theorem wholes_nil (f : Nat) : wholesS f [] = .ok [] := by cases f <;> rfl
end Go.Q

namespace Go.Q
open Go
def enc (n : Nat) : List UInt8 :=
  if n < 128 then [UInt8.ofNat n] else if n < 2048 then [UInt8.ofNat (192 + n / 64), UInt8.ofNat (128 + n % 64)] else
  if n < 65536 then [UInt8.ofNat (224 + n / 4096), UInt8.ofNat (128 + n / 64 % 64), UInt8.ofNat (128 + n % 64)] else
  [UInt8.ofNat (240 + n / 262144), UInt8.ofNat (128 + n / 4096 % 64), UInt8.ofNat (128 + n / 64 % 64), UInt8.ofNat (128 + n % 64)]
def decS (l : List UInt8) : Nat × Nat := Lib.decodeN l.length (l.getD 0 0).toNat (l.getD 1 0).toNat (l.getD 2 0).toNat (l.getD 3 0).toNat
def okSign (n : Nat) : Prop := n < 1114112 ∧ ¬ (55296 ≤ n ∧ n ≤ 57343)
theorem u8 (n : Nat) (h : n < 256) : (UInt8.ofNat n).toNat = n := by simp; omega
theorem dec_enc (n : Nat) (hv : okSign n) (rest : List UInt8) : decS (enc n ++ rest) = (n, (enc n).length) := by
  obtain ⟨h1, h2⟩ := hv
  unfold enc
  split
  · have e1 := u8 n (by omega)
    simp only [decS, List.cons_append, List.nil_append, List.getD_cons_zero, e1]
    unfold Lib.decodeN
    rw [if_pos (by omega)]
    rfl
  split
  · have e1 := u8 (192 + n / 64) (by omega)
    have e2 := u8 (128 + n % 64) (by omega)
    simp only [decS, List.cons_append, List.nil_append, List.getD_cons_zero, List.getD_cons_succ, e1, e2, List.length_cons]
    unfold Lib.decodeN
    rw [if_neg (by omega), if_pos (by omega), if_pos (by omega)]
    refine Prod.ext ?_ rfl
    show _ = n
    omega
  split
  · have e1 := u8 (224 + n / 4096) (by omega)
    have e2 := u8 (128 + n / 64 % 64) (by omega)
    have e3 := u8 (128 + n % 64) (by omega)
    simp only [decS, List.cons_append, List.nil_append, List.getD_cons_zero, List.getD_cons_succ, e1, e2, e3, List.length_cons]
    unfold Lib.decodeN
    rw [if_neg (by omega), if_neg (by omega), if_pos (by omega), if_pos (by omega)]
    refine Prod.ext ?_ rfl
    show _ = n
    omega
  · have e1 := u8 (240 + n / 262144) (by omega)
    have e2 := u8 (128 + n / 4096 % 64) (by omega)
    have e3 := u8 (128 + n / 64 % 64) (by omega)
    have e4 := u8 (128 + n % 64) (by omega)
    simp only [decS, List.cons_append, List.nil_append, List.getD_cons_zero, List.getD_cons_succ, e1, e2, e3, e4, List.length_cons]
    unfold Lib.decodeN
    rw [if_neg (by omega), if_neg (by omega), if_neg (by omega), if_pos (by omega), if_pos (by omega)]
    refine Prod.ext ?_ rfl
    show _ = n
    omega
theorem enc_pos (n : Nat) : 0 < (enc n).length := by unfold enc; split; simp; split; simp; split <;> simp
def wideS : Nat → List UInt8 → List Int
  | _, [] => []
  | 0, _ :: _ => []
  | f + 1, x :: t => (if (decS (x :: t)).1 = 65533 ∧ (decS (x :: t)).2 ≤ 1 then -1 else ((decS (x :: t)).1 : Int)) :: wideS f ((x :: t).drop (decS (x :: t)).2)
def encAll (l : List Nat) : List UInt8 := l.flatMap enc
theorem wide_enc : ∀ (l : List Nat) (f : Nat), (∀ n ∈ l, okSign n) → (encAll l).length ≤ f → wideS f (encAll l) = l.map (fun (n : Nat) => (n : Int))
  | [], f, _, _ => by cases f <;> rfl
  | n :: l, f, h, hf => by
    have hn := h n (by simp)
    have hp := enc_pos n
    have he : encAll (n :: l) = enc n ++ encAll l := by simp [encAll]
    rw [he] at hf ⊢
    have hd := dec_enc n hn (encAll l)
    obtain ⟨x, t, hx⟩ : ∃ x t, enc n ++ encAll l = x :: t := by
      cases h : enc n with
      | nil => rw [h] at hp; simp at hp
      | cons x t => exact ⟨x, t ++ encAll l, rfl⟩
    have hlen : (enc n ++ encAll l).length = (x :: t).length := by rw [hx]
    cases f with
    | zero => simp at hf; simp [hf.1] at hp
    | succ f =>
      rw [hx] at hd hf ⊢
      have hdrop : (x :: t).drop (enc n).length = encAll l := by rw [← hx, List.drop_left]
      simp only [wideS, hd, hdrop]
      rw [wide_enc l f (fun m hm => h m (by simp [hm])) (by simp at hf hlen; omega), List.map_cons]
      congr 1
      rw [if_neg]
      rintro ⟨e1, e2⟩
      subst e1
      simp [enc] at e2
end Go.Q
namespace Go.Q
def printables : List UInt8 := "abcdefghijklmnopqrstuvwxyzABCDEFGHIJKLMNOPQRSTUVWXYZ0123456789 '()+,-./:=?".toUTF8.data.toList
def surr (n : Int) : Bool := decide (55296 ≤ n ∧ n ≤ 57343)
def kindOk (k : Int) : Bool := decide (k = 12 ∨ k = 19 ∨ k = 20 ∨ k = 22 ∨ k = 26 ∨ k = 30)
def mayS (k n : Int) : Bool :=
  if k = 12 then decide (0 ≤ n ∧ n ≤ 1114111) && !surr n else
  if k = 19 then decide (0 ≤ n ∧ n < 256) && printables.contains (UInt8.ofNat n.toNat) else
  if k = 20 then decide (0 ≤ n ∧ n ≤ 255) else
  if k = 22 then decide (0 ≤ n ∧ n < 128) else
  if k = 26 then decide (32 ≤ n ∧ n ≤ 126) else
  if k = 30 then decide (0 ≤ n ∧ n ≤ 65535) && !surr n else false
def pairsS : List UInt8 → List Int
  | [] => []
  | [_] => [-1]
  | x :: y :: t => ((x.toNat * 256 + y.toNat : Nat) : Int) :: pairsS t
def signsS (k : Int) (b : List UInt8) : List Int := if k = 12 then wideS b.length b else if k = 30 then pairsS b else b.map (fun x => (x.toNat : Int))
def rightS (k : Int) (b : List UInt8) : Bool := kindOk k && (signsS k b).all (mayS k)
def putS1 (k n : Int) : List UInt8 := if k = 12 then enc n.toNat else if k = 30 then [UInt8.ofNat (n.toNat / 256), UInt8.ofNat (n.toNat % 256)] else [UInt8.ofNat n.toNat]
def ofS (k : Int) (l : List Int) : List UInt8 := l.flatMap (putS1 k)
theorem pairs_of : ∀ l : List Int, (∀ n ∈ l, 0 ≤ n ∧ n ≤ 65535) → pairsS (l.flatMap fun n => [UInt8.ofNat (n.toNat / 256), UInt8.ofNat (n.toNat % 256)]) = l
  | [], _ => rfl
  | n :: l, h => by
    have hn := h n (by simp)
    simp only [List.flatMap_cons, List.cons_append, List.nil_append, pairsS, u8 (n.toNat / 256) (by omega), u8 (n.toNat % 256) (by omega)]
    rw [pairs_of l (fun m hm => h m (by simp [hm]))]
    congr 1
    omega
theorem bytes_of : ∀ l : List Int, (∀ n ∈ l, 0 ≤ n ∧ n ≤ 255) → (l.flatMap fun n => [UInt8.ofNat n.toNat]).map (fun x => (x.toNat : Int)) = l
  | [], _ => rfl
  | n :: l, h => by
    have hn := h n (by simp)
    simp only [List.flatMap_cons, List.cons_append, List.nil_append, List.map_cons, u8 n.toNat (by omega)]
    rw [bytes_of l (fun m hm => h m (by simp [hm]))]
    congr 1
    omega
theorem signs_of {k : Int} {l : List Int} (hk : kindOk k = true) (h : ∀ n ∈ l, mayS k n = true) : signsS k (ofS k l) = l := by
  have hk' : k = 12 ∨ k = 19 ∨ k = 20 ∨ k = 22 ∨ k = 26 ∨ k = 30 := by simpa [kindOk] using hk
  by_cases h12 : k = 12
  · subst h12
    have e : ofS 12 l = encAll (l.map Int.toNat) := by
      simp only [ofS, encAll, List.flatMap_map]
      rfl
    have hok : ∀ n ∈ l.map Int.toNat, okSign n := by
      intro n hn
      obtain ⟨m, hm, rfl⟩ := List.mem_map.1 hn
      have := h m hm
      simp [mayS, surr] at this
      unfold okSign
      omega
    simp only [signsS, if_true, e]
    rw [wide_enc _ _ hok (Nat.le_refl _), List.map_map]
    refine (List.map_congr_left (fun m hm => ?_)).trans (List.map_id l)
    have := h m hm
    simp [mayS, surr] at this
    simp
    omega
  by_cases h30 : k = 30
  · subst h30
    have e : ofS 30 l = l.flatMap fun n => [UInt8.ofNat (n.toNat / 256), UInt8.ofNat (n.toNat % 256)] := rfl
    simp only [signsS, e]
    refine pairs_of l (fun n hn => ?_)
    have := h n hn
    simp [mayS, surr] at this
    omega
  have e : ofS k l = l.flatMap fun n => [UInt8.ofNat n.toNat] := by
    unfold ofS
    congr 1
    funext n
    simp only [putS1, if_neg h12, if_neg h30]
  simp only [signsS, if_neg h12, if_neg h30, e]
  refine bytes_of l (fun n hn => ?_)
  have := h n hn
  rcases hk' with r | r | r | r | r | r <;> subst r <;> simp [mayS] at this <;> omega
end Go.Q

namespace Go.Proofs.YtacekpdjapgfcaaGreatDoor
open Go Go.RowKit Go.Q
theorem and255 (n : Nat) (h : n < 4611686018427387904) : bits .and .i64 (n : Int) 255 = ((n % 256 : Nat) : Int) := by
  have h := (bits_nat .i64 62 (by decide) wraps_i62 n 255 (by omega) (by omega)).1
  rw [nat_mask8] at h
  exact h
set_option maxRecDepth 20000 in
set_option maxHeartbeats 1000000 in
theorem digits1_any {w : World} {base m : Nat} (bb bn bk n : Nat) (v : Value) (xs : List UInt8) (BB : Blk w bb 23 #[v]) (BN : Blk w bn 3 #[.int .i64 n]) (BK : Blk w bk 3 #[.int .i64 8])
    (hown : w.ownsRow base 5 1 v m (Lib.byteCells xs)) (hb : base ≤ w.heap.size) (ho : ∀ k, v.ownBlock = some k → k ≠ bb ∧ k ≠ bn ∧ k ≠ bk) (hm : m ≤ 100) (hn : n < 4611686018427387904) :
    Calls Tryz.prog 220 #[pt bb, pt bn, pt bk] w fun e w' => e = .returned (.tuple #[]) ∧ ∃ v', Blk w' bb 23 #[v'] ∧ w'.ownsRow base 5 1 v' (m + 1) (Lib.byteCells (xs ++ [UInt8.ofNat (n % 256)])) ∧ (∀ k, v'.ownBlock = some k → k ≠ bb ∧ k ≠ bn ∧ k ≠ bk) ∧ Fr (fun k => k = bb ∨ v.ownBlock = some k) w w' := by
  obtain ⟨y, hy⟩ : ∃ y, y = n % 256 := ⟨_, rfl⟩
  have hyl : y < 256 := by omega
  have hb1 : bits .and .i64 (n : Int) 255 = (y : Int) := by rw [hy]; exact and255 n hn
  have e0 := BB.cell 0
  have f0 := BB.frozen 0
  have e1 := BN.cell 0
  have e2 := BK.cell 0
  simp at e0 e1 e2
  have lb := BB.lt
  have l1 := BN.lt
  have l2 := BK.lt
  have F1 : Fr (fun _ => False) w ((w.alloc (.cells #[.int .u8 y] 5)).drew) := ((Fr.refl w).alloc _).drew
  have own1 := ownsRow_fr hown F1 (fun _ _ h => h)
  have hy8 : (UInt8.ofNat y).toNat = y := u8 y hyl
  have hsrc : Bytes ((w.alloc (.cells #[.int .u8 y] 5)).drew) (.slice (some ⟨w.heap.size, 0, none⟩) 1 1) [UInt8.ofNat y] := by
    refine ⟨_, 1, rfl, Nat.le_refl _, by unfold maxLen; omega, fun _ => ⟨w.heap.size, 0, rfl, fun i u hu => ?_⟩⟩
    have := (Blk.new w 5 #[.int .u8 y]).drew.cell (0 + i)
    rw [this]
    simpa [Lib.byteCells, hy8] using hu
  obtain ⟨v', w', hr, hown', hF, hat⟩ := append_bytes own1 _ 1 1 [UInt8.ofNat y] hsrc (by omega) (Nat.le_trans hb F1.size)
  have hw8 : IntKind.u8.wrap (y : Int) = (y : Int) := by simp [IntKind.wrap, IntKind.signed, IntKind.bits]; omega
  obtain ⟨a7, c7, rfl, -⟩ := (Vals.of_own hown').1
  have hYe : IntKind.u8.wrap (bits BinOp.and IntKind.i64 (n : Int) (IntKind.i64.wrap (IntKind.i64.wrap 256 - 1))) = (y : Int) := by
    rw [show IntKind.i64.wrap (IntKind.i64.wrap 256 - 1) = 255 from by decide, hb1, hw8]
  have HYE := Lib.hid hYe
  clear hYe
  have HO := Lib.hid hown'
  have HAT := Lib.hid hat
  have HY := Lib.hid hy
  have BB' := BB.fr F1 (fun h => h)
  have BB2 := BB'.fr hF (fun e => (ho bb e).1 rfl)
  have e0' := BB2.cell 0
  have f0' := BB2.frozen 0
  simp at e0'
  have HB2 := Lib.hid BB2
  have HF := Lib.hid hF
  have HF1 := Lib.hid F1
  have HOO := Lib.hid ho
  clear BB BN BK hown own1 hsrc hown' hat hy hF F1 BB' BB2 ho
  go_enter Tryz.func220, Tryz.ntmps220
  go_wp2_with fail
  go_region_law (first | (refine step_append_run (by rfl) (.tmp 3) (.tmp 10) 23 (by rfl) _ w' (by rw [HYE.out]; exact hr) ?_) | fail)
  all_goals
    go_wp2_with fail
    go_end0
    have hne : ∀ k, (Value.slice a7 (Lib.byteCells (xs ++ [UInt8.ofNat y])).length c7).ownBlock = some k → k ≠ bb ∧ k ≠ bn ∧ k ≠ bk := fun k hk => by
      rcases HAT.out with h | h
      · rw [h] at hk
        exact HOO.out k hk
      · rw [h] at hk
        simp only [World.size_drew, World.size_alloc, Option.some.injEq] at hk
        omega
    have FS : Fr (fun k => k = bb) w' (w'.setCell ⟨bb, 0, none⟩ (.slice a7 (Lib.byteCells (xs ++ [UInt8.ofNat y])).length c7)) := Fr.setCell (S := fun k => k = bb) (p := ⟨bb, 0, none⟩) (Fr.refl w') (fun _ => rfl) _
    refine ⟨rfl, _, HB2.out.set 0 _, ?_, hne, ?_⟩
    · rw [← HY.out]
      exact ownsRow_fr HO.out FS (fun k hk e => (hne k hk).1 e)
    · exact ((HF1.out.mono (T := fun k => k = bb ∨ v.ownBlock = some k) (fun _ _ h => h.elim)).trans' HF.out (fun _ _ h => .inr h)).trans (FS.mono (fun _ _ h => .inl h))
end Go.Proofs.YtacekpdjapgfcaaGreatDoor

namespace Go.Proofs.YtacekpdjapgfcaaGreatDoor
open Go Go.RowKit Go.Q
def numR : Except Int (Nat × Nat) → Value
  | .ok (n, _) => .tuple #[.int .i64 n, .int .i64 0]
  | .error e => .tuple #[.int .i64 0, .int .i64 e]
theorem num_lt {m r k : Nat} (hm : m < 128 ^ k) (hr : r < 128) : m * 128 + r < 128 ^ (k + 1) := by
  rw [Nat.pow_succ]
  exact Nat.lt_of_lt_of_le (show m * 128 + r < (m + 1) * 128 by omega) (Nat.mul_le_mul_right 128 hm)
theorem num_small {m k : Nat} (hm : m < 128 ^ k) (hk : k ≤ 2) : m < 16384 := by
  have : k = 0 ∨ k = 1 ∨ k = 2 := by omega
  rcases this with r | r | r <;> subst r <;> simp at hm <;> omega
set_option maxRecDepth 20000 in
set_option maxHeartbeats 1000000 in
theorem number_any {w : World} {c : Nat} {K : Nat → Prop} {bs : List UInt8} {p : Nat} (h : CurAt w c K bs p) :
    Calls Tryz.prog 214 #[pt c] w fun e w' => e = .returned (numR (numS 0 0 (bs.drop p))) ∧ (∃ j, p ≤ j ∧ CurAt w' c K bs j ∧ ∀ n k, numS 0 0 (bs.drop p) = .ok (n, k) → j = p + k) ∧ Fr (fun k => k = c) w w' := by
  have H := Lib.hid h
  clear h
  go_enter Tryz.func214, Tryz.ntmps214
  go_wp2_with fail
  go_step3
  go_wp2_with fail
  go_step3
  go_wp2_with fail
  go_loopg [4, 8] 4 (fun g n i wr => ∃ (k m : Nat), g = 4 - k ∧ k ≤ 3 ∧ m < 128 ^ k ∧ n = .int .i64 m ∧ i = .int .i64 k ∧ CurAt wr c K bs (p + k) ∧ Fr (fun k => k = c) w wr ∧ numS 0 0 (bs.drop p) = numS k m (bs.drop (p + k)))
  case atStart => exact ⟨0, 0, rfl, by omega, by simp, rfl, rfl, H.out, Fr.refl _, rfl⟩
  case round =>
    obtain ⟨k, m, hg, hk, hm, rfl, rfl, hC, hF, hN⟩ := hrel
    have HG := Lib.hid hg
    have HC := Lib.hid hC
    have HN := Lib.hid hN
    clear hg hC hN
    have q1 : (k : Int) < 4 := by omega
    cases hd : bs.drop (p + k) with
    | nil =>
      have HD := Lib.hid hd
      clear hd
      go_wp2_with fail
      refine (byte_end HC.out HD.out).mono ?_
      rintro e w1 ⟨rfl, F1⟩
      go_wp2_with fail
      have hN := HN.out
      rw [HD.out] at hN
      simp only [numS] at hN
      rw [Exit.noGoto_ret]
      refine bodyPost_ret (v := .tuple #[.int .i64 0, .int .i64 3]) (by simp [results, Tryz.results214, go_sem]) rfl ?_
      rw [hN]
      exact ⟨rfl, ⟨_, Nat.le_add_right _ _, HC.out.old F1, by simp⟩, hF.trans (F1.mono (fun _ _ h => h.elim))⟩
    | cons x t =>
      have HD := Lib.hid hd
      clear hd
      go_wp2_with fail
      refine (byte_on HC.out HD.out).mono ?_
      rintro e w1 ⟨rfl, C1, F1⟩
      have hx := x.toNat_lt
      have hN := HN.out
      rw [HD.out] at hN
      simp only [numS] at hN
      by_cases h3 : (k = 0 ∧ x.toNat = 128) ∨ k = 3
      · rw [if_pos h3] at hN
        have HN2 := Lib.hid hN
        clear hN HN
        rcases Classical.em (k = 0) with h0 | h0
        · obtain ⟨_, h128⟩ : k = 0 ∧ x.toNat = 128 := by omega
          subst h0
          have h128' : (x.toNat : Int) = 128 := by omega
          go_wp2_with fail
          rw [Exit.noGoto_ret]
          refine bodyPost_ret (v := .tuple #[.int .i64 0, .int .i64 4]) (by simp [results, Tryz.results214, go_sem]) rfl ?_
          rw [HN2.out]
          exact ⟨rfl, ⟨_, by omega, C1, by simp⟩, hF.trans F1⟩
        · obtain rfl : k = 3 := by omega
          go_wp2_with fail
          rw [Exit.noGoto_ret]
          refine bodyPost_ret (v := .tuple #[.int .i64 0, .int .i64 4]) (by simp [results, Tryz.results214, go_sem]) rfl ?_
          rw [HN2.out]
          exact ⟨rfl, ⟨_, by omega, C1, by simp⟩, hF.trans F1⟩
      · rw [if_neg h3] at hN
        have HN2 := Lib.hid hN
        clear hN HN
        have hk3 : ((k : Int) == 3) = false := beq_eq_false_iff_ne.2 (by omega)
        have hm2 : m < 16384 := num_small hm (by omega)
        obtain ⟨r, hr⟩ : ∃ r, r = x.toNat % 128 := ⟨_, rfl⟩
        have hr2 : r < 128 := by omega
        have hb1 : bits .and .u8 (x.toNat : Int) 127 = (r : Int) := by rw [hr]; exact and127 x
        obtain ⟨v, hv⟩ : ∃ v, v = m * 128 + r := ⟨_, rfl⟩
        have hb2 : bits .or .i64 ((m : Int) * 128) (r : Int) = (v : Int) := by rw [hv]; exact or7 m r (by omega) hr2
        have hw1 : wrap64 ((m : Int) * 128) = (m : Int) * 128 := by unfold wrap64; omega
        have hw2 : wrap64 (r : Int) = (r : Int) := wrap_nat r (by omega)
        have hv2 : v < 128 ^ (k + 1) := by rw [hv]; exact num_lt hm hr2
        rw [← hr, ← hv] at HN2
        have HV := Lib.hid hv2
        have hk2 : k ≤ 2 := by omega
        clear hr hv hm hv2
        have fin : ∀ wz, wz = w1 → (numS 0 0 (bs.drop p) = .error 4 → numR (numS 0 0 (bs.drop p)) = .tuple #[.int .i64 0, .int .i64 4] ∧ (∃ j, p ≤ j ∧ CurAt wz c K bs j ∧ ∀ n k, numS 0 0 (bs.drop p) = .ok (n, k) → j = p + k) ∧ Fr (fun k => k = c) w wz) ∧ ∀ n, numS 0 0 (bs.drop p) = .ok (n, k + 1) → numR (numS 0 0 (bs.drop p)) = .tuple #[.int .i64 n, .int .i64 0] ∧ (∃ j, p ≤ j ∧ CurAt wz c K bs j ∧ ∀ n k, numS 0 0 (bs.drop p) = .ok (n, k) → j = p + k) ∧ Fr (fun k => k = c) w wz := by
          rintro wz rfl
          refine ⟨fun h => ?_, fun n h => ?_⟩
          · rw [h]
            exact ⟨rfl, ⟨_, by omega, C1, by simp⟩, hF.trans F1⟩
          · rw [h]
            refine ⟨rfl, ⟨_, by omega, C1, fun n' k' e => ?_⟩, hF.trans F1⟩
            simp only [Except.ok.injEq, Prod.mk.injEq] at e
            omega
        have FIN := Lib.hid fin
        have HC1 := Lib.hid C1
        have HF1 := Lib.hid (hF.trans F1)
        clear fin C1 hF F1 HC
        by_cases hx7 : x.toNat < 128
        · have hx8 : (x.toNat : Int) < 128 := by omega
          by_cases hv31 : v < 31
          · have hv32 : (v : Int) < 31 := by omega
            have hE : numS 0 0 (bs.drop p) = .error 4 := by rw [HN2.out, if_pos hx7, if_pos hv31]
            have HE := Lib.hid hE
            clear hE
            rcases Classical.em (k = 0) with h0 | h0
            case' inl =>
              have h128' : ¬ (x.toNat : Int) = 128 := by omega
              have hk0 : ((k : Int) == 0) = true := by simpa using h0
            case' inr =>
              have hk0 : ((k : Int) == 0) = false := by simpa using h0
            all_goals
              go_wp2_with fail
              rw [Exit.noGoto_ret]
              obtain ⟨e1, e2⟩ := (FIN.out _ rfl).1 HE.out
              refine bodyPost_ret (v := .tuple #[.int .i64 0, .int .i64 4]) (by simp [results, Tryz.results214, go_sem]) rfl ?_
              exact ⟨by rw [e1], e2⟩
          · have hv32 : ¬ (v : Int) < 31 := by omega
            have hE : numS 0 0 (bs.drop p) = .ok (v, k + 1) := by rw [HN2.out, if_pos hx7, if_neg hv31]
            have HE := Lib.hid hE
            clear hE
            rcases Classical.em (k = 0) with h0 | h0
            case' inl =>
              have h128' : ¬ (x.toNat : Int) = 128 := by omega
              have hk0 : ((k : Int) == 0) = true := by simpa using h0
            case' inr =>
              have hk0 : ((k : Int) == 0) = false := by simpa using h0
            all_goals
              go_wp2_with fail
              rw [Exit.noGoto_ret]
              obtain ⟨e1, e2⟩ := (FIN.out _ rfl).2 v HE.out
              refine bodyPost_ret (v := .tuple #[.int .i64 v, .int .i64 0]) (by simp [results, Tryz.results214, go_sem]) rfl ?_
              exact ⟨by rw [e1], e2⟩
        · have hx8 : ¬ (x.toNat : Int) < 128 := by omega
          have hdr : bs.drop (p + (k + 1)) = t := by
            rw [← Nat.add_assoc, ← List.drop_drop, HD.out]
            rfl
          have hE : numS 0 0 (bs.drop p) = numS (k + 1) v (bs.drop (p + (k + 1))) := by rw [HN2.out, if_neg hx7, hdr]
          have HE := Lib.hid hE
          clear hE hdr
          rcases Classical.em (k = 0) with h0 | h0
          case' inl =>
            have h128' : ¬ (x.toNat : Int) = 128 := by omega
            have hk0 : ((k : Int) == 0) = true := by simpa using h0
          case' inr =>
            have hk0 : ((k : Int) == 0) = false := by simpa using h0
          all_goals
            go_wp2_with fail
            go_roundg (4 - (k + 1))
            case measure => rw [HG.out]; omega
            case rel => exact ⟨k + 1, v, rfl, by omega, HV.out, rfl, by go_num, HC1.out, HF1.out, HE.out⟩
end Go.Proofs.YtacekpdjapgfcaaGreatDoor

namespace Go.Proofs.YtacekpdjapgfcaaGreatDoor
open Go Go.RowKit Go.Q
theorem be_take {l : List UInt8} {j : Nat} {x : UInt8} (h : l[j]? = some x) : beS (l.take (j + 1)) = beS (l.take j) * 256 + x.toNat := by
  rw [List.take_add_one, h]
  simp [beS, List.foldl_append]
theorem be_lt : ∀ (l : List UInt8), l.length ≤ 4 → beS l < 4294967296 := by
  intro l h
  have g : ∀ x : UInt8, x.toNat < 256 := fun x => x.toNat_lt
  match l, h with
  | [], _ => decide
  | [a], _ => have := g a; simp [beS]; omega
  | [a, b], _ => have := g a; have := g b; simp [beS]; omega
  | [a, b, c], _ => have := g a; have := g b; have := g c; simp [beS]; omega
  | [a, b, c, d], _ => have := g a; have := g b; have := g c; have := g d; simp [beS]; omega
  | _ :: _ :: _ :: _ :: _ :: _, h => simp at h
set_option maxRecDepth 20000 in
set_option maxHeartbeats 1000000 in
theorem long_any {w : World} {c : Nat} {K : Nat → Prop} {bs : List UInt8} {p : Nat} (h : CurAt w c K bs p) (n : Nat) (hn1 : 1 ≤ n) (hn4 : n ≤ 4) :
    Calls Tryz.prog 217 #[pt c, .int .i64 n] w fun e w' => e = .returned (numR (longS n (bs.drop p))) ∧ (∃ j, p ≤ j ∧ CurAt w' c K bs j ∧ ∀ v k, longS n (bs.drop p) = .ok (v, k) → j + 1 = p + k) ∧ Fr (fun k => k = c) w w' := by
  have H := Lib.hid h
  have hle := h.le
  clear h
  rcases Nat.lt_or_ge (bs.length - p) n with hs | hs
  · have hL : longS n (bs.drop p) = .error 3 := by
      unfold longS
      rw [if_pos (by rw [List.length_drop]; exact hs)]
    have HL := Lib.hid hL
    clear hL
    go_enter Tryz.func217, Tryz.ntmps217
    go_wp2_with fail
    refine (take_end H.out n hs).mono ?_
    rintro e w1 ⟨rfl, F1⟩
    go_wp2_with fail
    refine bodyPost_ret (v := .tuple #[.int .i64 0, .int .i64 3]) (by simp [results, Tryz.results217, go_sem]) rfl ?_
    rw [HL.out]
    exact ⟨rfl, ⟨p, Nat.le_refl _, H.out.old F1, by simp⟩, F1.mono (fun _ _ h => h.elim)⟩
  · obtain ⟨D, hD⟩ : ∃ D, D = (bs.drop p).take n := ⟨_, rfl⟩
    have hDl : D.length = n := by rw [hD, List.length_take, List.length_drop]; omega
    have hlt := be_lt D (by omega)
    obtain ⟨x0, hx0⟩ : ∃ x, D[0]? = some x := ⟨_, List.getElem?_eq_getElem (by omega)⟩
    have hhead : (bs.drop p).head?.map (·.toNat) = some x0.toNat := by
      have : D[0]? = (bs.drop p)[0]? := by rw [hD, List.getElem?_take, if_pos (by omega)]
      rw [hx0] at this
      rw [List.head?_eq_getElem?, ← this]
      rfl
    have hL : longS n (bs.drop p) = if x0.toNat = 0 ∨ beS D < 128 then .error 5 else if 16777216 < beS D then .error 2 else .ok (beS D, n + 1) := by
      unfold longS
      rw [if_neg (by rw [List.length_drop]; omega), ← hD, hhead]
      simp
    have HL := Lib.hid hL
    have HD := Lib.hid hD
    have hx0l := x0.toNat_lt
    clear hL hD hhead
    go_enter Tryz.func217, Tryz.ntmps217
    go_wp2_with fail
    refine (take_ok H.out n hs).mono ?_
    rintro e w1 ⟨v, rfl, ho, C1, F1⟩
    rw [← HD.out] at ho
    obtain ⟨a, cap, rfl, hc, hm, hx⟩ := (Vals.of_own ho).1.form
    rw [hDl] at hc hx ⊢
    obtain ⟨b, o, rfl, hxx⟩ := hx (by omega)
    have e0 := hxx 0 x0 hx0
    have HX := Lib.hid hxx
    have HC1 := Lib.hid C1
    have HF1 := Lib.hid F1
    simp only [Nat.add_zero] at e0
    clear ho hx hxx C1 F1 H hle hs
    go_wp2_with fail
    go_loopg [8, 22] n (fun g k i wr => ∃ j : Nat, g = n - j ∧ j ≤ n ∧ k = .int .i64 (beS (D.take j)) ∧ i = .int .i64 j ∧ wr = w1)
    case atStart => exact ⟨0, rfl, by omega, rfl, rfl, rfl⟩
    case round =>
      obtain ⟨j, hg, hj, rfl, rfl, rfl⟩ := hrel
      have HG := Lib.hid hg
      clear hg
      by_cases hjn : j < n
      · obtain ⟨x, hxj⟩ : ∃ x, D[j]? = some x := ⟨_, List.getElem?_eq_getElem (by omega)⟩
        have ex := HX.out j x hxj
        have hbe := be_take hxj
        have hlt1 := be_lt (D.take j) (by rw [List.length_take]; omega)
        have hlt2 := be_lt (D.take (j + 1)) (by rw [List.length_take]; omega)
        have hxl := x.toNat_lt
        have q1 : (j : Int) < (n : Int) := by omega
        have q2 : (0 : Int) ≤ (j : Int) := by omega
        generalize beS (D.take j) = v0 at *
        generalize hv1 : beS (D.take (j + 1)) = v1 at *
        have HV := Lib.hid hv1
        obtain ⟨y, hy⟩ : ∃ y : Nat, y = x.toNat := ⟨_, rfl⟩
        rw [← hy] at ex hbe hxl
        have hb2 : bits .or .i64 ((v0 : Int) * 256) (y : Int) = (v1 : Int) := by rw [hbe]; exact or8 v0 y (by omega) hxl
        have hw1 : wrap64 ((v0 : Int) * 256) = (v0 : Int) * 256 := by unfold wrap64; omega
        have hw2 : wrap64 (y : Int) = (y : Int) := wrap_nat y (by omega)
        have hxl2 : y < 256 := hxl
        clear hv1 hxj hy hbe hlt1 hlt2 hlt hx0l hxl
        go_wp2_with fail
        go_roundg (n - (j + 1))
        case measure => rw [HG.out]; omega
        case rel => exact ⟨j + 1, rfl, by omega, by rw [HV.out], by go_num, rfl⟩
      · obtain rfl : j = n := by omega
        have ht : D.take j = D := List.take_of_length_le (by omega)
        rw [ht]
        obtain ⟨B, hB⟩ : ∃ B, B = beS D := ⟨_, rfl⟩
        rw [← hB] at HL hlt ⊢
        clear HX ht hB
        obtain ⟨y0, hy0⟩ : ∃ y : Nat, y = x0.toNat := ⟨_, rfl⟩
        rw [← hy0] at HL e0 hx0l
        clear hy0 hx0
        have fin : ∀ wz, wz = wr → ∀ r, longS j (bs.drop p) = r → (∃ q, p ≤ q ∧ CurAt wz c K bs q ∧ ∀ v k, longS j (bs.drop p) = .ok (v, k) → q + 1 = p + k) ∧ Fr (fun k => k = c) w wz := by
          rintro wz rfl r hr
          refine ⟨⟨_, Nat.le_add_right p j, HC1.out, fun v k e => ?_⟩, HF1.out⟩
          rw [HL.out] at e
          split at e
          · cases e
          split at e
          · cases e
          · simp only [Except.ok.injEq, Prod.mk.injEq] at e
            omega
        have FIN := Lib.hid fin
        clear fin
        by_cases h0 : y0 = 0 ∨ B < 128
        · have hE : longS j (bs.drop p) = .error 5 := by rw [HL.out, if_pos h0]
          have HE := Lib.hid hE
          clear hE HL
          rcases Classical.em (y0 = 0) with hy | hy
          case' inl => subst hy
          case' inr =>
            have hy1 : ¬ (y0 : Int) = 0 := by omega
            have hB1 : (B : Int) < 128 := by omega
          all_goals
            go_wp2_with fail
            refine bodyPost_ret (v := .tuple #[.int .i64 0, .int .i64 5]) (by simp [results, Tryz.results217, go_sem]) rfl ?_
            refine ⟨?_, FIN.out _ rfl _ HE.out⟩
            rw [HE.out]
            rfl
        · have hy1 : ¬ (y0 : Int) = 0 := by omega
          have hB1 : ¬ (B : Int) < 128 := by omega
          by_cases hB2 : 16777216 < B
          · have hE : longS j (bs.drop p) = .error 2 := by rw [HL.out, if_neg h0, if_pos hB2]
            have hB3 : (16777216 : Int) < (B : Int) := by omega
            have HE := Lib.hid hE
            clear hE HL
            go_wp2_with fail
            refine bodyPost_ret (v := .tuple #[.int .i64 0, .int .i64 2]) (by simp [results, Tryz.results217, go_sem]) rfl ?_
            refine ⟨?_, FIN.out _ rfl _ HE.out⟩
            rw [HE.out]
            rfl
          · have hE : longS j (bs.drop p) = .ok (B, j + 1) := by rw [HL.out, if_neg h0, if_neg hB2]
            have hB3 : ¬ (16777216 : Int) < (B : Int) := by omega
            have HE := Lib.hid hE
            clear hE HL
            go_wp2_with fail
            refine bodyPost_ret (v := .tuple #[.int .i64 B, .int .i64 0]) (by simp [results, Tryz.results217, go_sem]) rfl ?_
            refine ⟨?_, FIN.out _ rfl _ HE.out⟩
            rw [HE.out]
            rfl
end Go.Proofs.YtacekpdjapgfcaaGreatDoor

namespace Go.Proofs.YtacekpdjapgfcaaGreatDoor
open Go Go.RowKit Go.Q
def posOf {α : Type} (p : Nat) : Except Int (α × Nat) → Nat
  | .ok (_, k) => p + k
  | .error _ => p
set_option maxRecDepth 20000 in
set_option maxHeartbeats 1000000 in
theorem readLength1_any {w : World} {c : Nat} {K : Nat → Prop} {bs : List UInt8} {p : Nat} (h : CurAt w c K bs p) (bx : Nat) (B : Blk w bx 38 #[pt c]) (hbx : bx ≠ c) :
    Calls Tryz.prog 216 #[pt bx] w fun e w' => e = .returned (numR (readLenS (bs.drop p))) ∧ (∃ q, p ≤ q ∧ CurAt w' c K bs q ∧ ∀ v k, readLenS (bs.drop p) = .ok (v, k) → q = p + k) ∧ Fr (fun k => k = c) w w' := by
  have H := Lib.hid h
  have e0 := B.cell 0
  simp at e0
  clear h
  cases hd : bs.drop p with
  | nil =>
    have HD := Lib.hid hd
    clear hd
    go_enter Tryz.func216, Tryz.ntmps216
    go_wp2_with fail
    refine (byte_end H.out HD.out).mono ?_
    rintro e w1 ⟨rfl, F1⟩
    go_wp2_with fail
    exact bodyPost_ret (v := .tuple #[.int .i64 0, .int .i64 3]) (by simp [results, Tryz.results216, go_sem]) rfl ⟨rfl, ⟨p, Nat.le_refl _, H.out.old F1, by simp [readLenS]⟩, F1.mono (fun _ _ h => h.elim)⟩
  | cons x t =>
    have HD := Lib.hid hd
    clear hd
    obtain ⟨y, hy⟩ : ∃ y : Nat, y = x.toNat := ⟨_, rfl⟩
    have hyl : y < 256 := by rw [hy]; exact x.toNat_lt
    have ht : bs.drop (p + 1) = t := by rw [← List.drop_drop, HD.out]; rfl
    have HT := Lib.hid ht
    have hL : readLenS (x :: t) = if y < 128 then .ok (y, 1) else if y = 128 ∨ 132 < y then .error 5 else longS (y - 128) t := by rw [hy]; rfl
    have HL := Lib.hid hL
    have hBy := Lib.hid (byte_on H.out HD.out)
    rw [← hy] at hBy
    have hb1 : bits .and .u8 (y : Int) 127 = ((y % 128 : Nat) : Int) := by rw [hy]; exact and127 x
    clear hy ht hL
    go_enter Tryz.func216, Tryz.ntmps216
    go_wp2_with fail
    refine hBy.out.mono ?_
    rintro e w1 ⟨rfl, C1, F1⟩
    have HC1 := Lib.hid C1
    have HF1 := Lib.hid F1
    replace e0 := F1.cell e0 hbx
    clear C1 F1 hBy B
    by_cases h1 : y < 128
    · have h1' : (y : Int) < 128 := by omega
      have hE : readLenS (x :: t) = .ok (y, 1) := by rw [HL.out, if_pos h1]
      have HE := Lib.hid hE
      have hw2 : wrap64 (y : Int) = (y : Int) := wrap_nat y (by omega)
      clear hE HL hb1
      go_wp2_with fail
      refine bodyPost_ret (v := .tuple #[.int .i64 y, .int .i64 0]) (by simp [results, Tryz.results216, go_sem]) rfl ?_
      rw [HE.out]
      refine ⟨rfl, ⟨p + 1, by omega, HC1.out, fun v k e => ?_⟩, HF1.out⟩
      simp only [Except.ok.injEq, Prod.mk.injEq] at e
      omega
    · have h1' : ¬ (y : Int) < 128 := by omega
      by_cases h2 : y = 128 ∨ 132 < y
      · have hE : readLenS (x :: t) = .error 5 := by rw [HL.out, if_neg h1, if_pos h2]
        have HE := Lib.hid hE
        clear hE HL hb1
        rcases Classical.em (y = 128) with hy | hy
        case' inl => subst hy
        case' inr =>
          have hy1 : ((y : Int) == 128) = false := beq_eq_false_iff_ne.2 (by omega)
          have hy2 : decide ((132 : Int) < (y : Int)) = true := decide_eq_true (by omega)
        all_goals
          go_wp2_with fail
          refine bodyPost_ret (v := .tuple #[.int .i64 0, .int .i64 5]) (by simp [results, Tryz.results216, go_sem]) rfl ?_
          rw [HE.out]
          exact ⟨rfl, ⟨p + 1, by omega, HC1.out, by simp⟩, HF1.out⟩
      · have hE : readLenS (x :: t) = longS (y - 128) t := by rw [HL.out, if_neg h1, if_neg h2]
        have hy1 : ((y : Int) == 128) = false := beq_eq_false_iff_ne.2 (by omega)
        have hy2 : decide ((132 : Int) < (y : Int)) = false := decide_eq_false (by omega)
        obtain ⟨n, hn⟩ : ∃ n, n = y - 128 := ⟨_, rfl⟩
        have hb2 : bits .and .u8 (y : Int) 127 = (n : Int) := by rw [hb1]; omega
        have hw2 : wrap64 (n : Int) = (n : Int) := wrap_nat n (by omega)
        have hn1 : 1 ≤ n := by omega
        have hn4 : n ≤ 4 := by omega
        rw [← hn] at hE
        have HE := Lib.hid hE
        have HLo := Lib.hid (long_any HC1.out n hn1 hn4)
        clear hE HL hb1 hn
        go_wp2_with fail
        refine HLo.out.mono ?_
        rintro e w2 ⟨rfl, ⟨q, hq, C2, hpos⟩, F2⟩
        rw [HT.out] at hpos ⊢
        have HP := Lib.hid hpos
        cases hr : longS n t with
        | error e0 =>
          have HR := Lib.hid hr
          clear hr hpos
          simp only [numR]
          go_wp2_with fail
          refine bodyPost_ret (v := .tuple #[.int .i64 0, .int .i64 e0]) (by simp [results, Tryz.results216, go_sem]) rfl ?_
          rw [HE.out, HR.out]
          exact ⟨rfl, ⟨q, by omega, C2, by simp⟩, HF1.out.trans F2⟩
        | ok vk =>
          obtain ⟨v, k⟩ := vk
          have HR := Lib.hid hr
          clear hr hpos
          simp only [numR]
          go_wp2_with fail
          refine bodyPost_ret (v := .tuple #[.int .i64 v, .int .i64 0]) (by simp [results, Tryz.results216, go_sem]) rfl ?_
          rw [HE.out, HR.out]
          refine ⟨rfl, ⟨q, by omega, C2, fun v' k' e => ?_⟩, HF1.out.trans F2⟩
          have := HP.out v k HR.out
          simp only [Except.ok.injEq, Prod.mk.injEq] at e
          omega
end Go.Proofs.YtacekpdjapgfcaaGreatDoor

namespace Go.Proofs.YtacekpdjapgfcaaGreatDoor
open Go Go.RowKit Go.Q
theorem longS_err {n : Nat} {l : List UInt8} {e : Int} (h : longS n l = .error e) : e ≠ 0 := by
  unfold longS at h
  split at h
  · cases h; decide
  split at h
  · cases h; decide
  split at h
  · cases h; decide
  · cases h
theorem readLenS_err {l : List UInt8} {e : Int} (h : readLenS l = .error e) : e ≠ 0 := by
  cases l with
  | nil => simp only [readLenS, Except.error.injEq] at h; omega
  | cons x t =>
    simp only [readLenS] at h
    split at h
    · cases h
    split at h
    · cases h; decide
    · exact longS_err h
theorem numS_err : ∀ {l : List UInt8} {i n : Nat} {e : Int}, numS i n l = .error e → e ≠ 0
  | [], _, _, _, h => by simp only [numS, Except.error.injEq] at h; omega
  | x :: t, i, n, e, h => by
    simp only [numS] at h
    split at h
    · cases h; decide
    split at h
    · split at h
      · cases h; decide
      · cases h
    · exact numS_err h
theorem readTagS_err {l : List UInt8} {e : Int} (h : readTagS l = .error e) : e ≠ 0 := by
  cases l with
  | nil => simp only [readTagS, Except.error.injEq] at h; omega
  | cons x t =>
    simp only [readTagS] at h
    split at h
    · cases h
    · split at h
      · rename_i e' he
        cases h
        exact numS_err he
      · cases h
set_option maxRecDepth 20000 in
set_option maxHeartbeats 1000000 in
theorem readLength_any {w : World} {c : Nat} {K : Nat → Prop} {bs : List UInt8} {p : Nat} (h : CurAt w c K bs p) :
    Calls Tryz.prog 166 #[pt c] w fun e w' => e = .returned (numR (readLenS (bs.drop p))) ∧ CurAt w' c K bs (posOf p (readLenS (bs.drop p))) ∧ Fr (fun k => k = c) w w' := by
  have hlt := h.lt
  obtain ⟨bx, hbx⟩ : ∃ bx, bx = w.heap.size := ⟨_, rfl⟩
  have B := Blk.new w 38 #[pt c]
  have F : Fr (fun _ => False) w (w.alloc (.cells #[pt c] 38)) := (Fr.refl w).alloc _
  have H := Lib.hid (h.old F)
  rw [← hbx] at B
  have hbc : bx ≠ c := by omega
  have HBX := Lib.hid hbx
  have e0 := B.cell 0
  simp at e0
  clear h hlt hbx
  go_enter Tryz.func166, Tryz.ntmps166
  go_upto_region 1 with fail
  rw [← HBX.out]
  generalize (w.alloc (.cells #[pt c] 38)) = w0 at *
  go_wp2_with (first | (go_at_call 215; go_in))
  refine (at_any H.out).mono ?_
  rintro e w1 ⟨rfl, rfl⟩
  go_wp2_with fail
  refine (readLength1_any H.out bx B hbc).mono ?_
  rintro e w1 ⟨rfl, ⟨q, hq, C1, hpos⟩, F1⟩
  have HP := Lib.hid hpos
  have HC1 := Lib.hid C1
  have HF1 := Lib.hid ((F.mono (fun _ _ h => h.elim)).trans F1)
  have HQ := Lib.hid hq
  clear hpos C1 F1 F H B e0 hq
  cases hr : readLenS (bs.drop p) with
  | error e0 =>
    have he := readLenS_err hr
    have he1 : (e0 == 0) = false := beq_eq_false_iff_ne.2 he
    have HR := Lib.hid hr
    clear hr
    simp only [numR]
    go_wp2_with fail
    refine (back_any HC1.out p HQ.out).mono ?_
    rintro e w2 ⟨rfl, C2, F2⟩
    go_wp2_with fail
    refine bodyPost_ret (v := .tuple #[.int .i64 0, .int .i64 e0]) (by simp [results, Tryz.results166, go_sem]) rfl ?_
    rw [HR.out]
    exact ⟨rfl, C2, HF1.out.trans F2⟩
  | ok vk =>
    obtain ⟨v, k⟩ := vk
    have HR := Lib.hid hr
    clear hr
    simp only [numR]
    go_wp2_with fail
    refine bodyPost_ret (v := .tuple #[.int .i64 v, .int .i64 0]) (by simp [results, Tryz.results166, go_sem]) rfl ?_
    rw [HR.out]
    refine ⟨rfl, ?_, HF1.out⟩
    have := HP.out v k HR.out
    subst this
    exact HC1.out
end Go.Proofs.YtacekpdjapgfcaaGreatDoor

namespace Go.Proofs.YtacekpdjapgfcaaGreatDoor
open Go Go.RowKit Go.Q
def tagV (t : Tag) : Value := .agg #[.int .i64 t.cls, .int .i64 t.num, .bool t.made]
def tagOut (r : Except Int (Tag × Nat)) (t : Tag) (e : Int) : Prop :=
  match r with
  | .ok (u, _) => t = u ∧ e = 0
  | .error x => e = x
theorem set3 {w : World} {z : Nat} {t : TypeId} {x y u : Value} (h : Blk w z t #[x, y, u]) (a b c : Value) :
    Blk (((w.setCell ⟨z, 0, none⟩ a).setCell ⟨z, 1, none⟩ b).setCell ⟨z, 2, none⟩ c) z t #[a, b, c] ∧ Fr (fun k => k = z) w (((w.setCell ⟨z, 0, none⟩ a).setCell ⟨z, 1, none⟩ b).setCell ⟨z, 2, none⟩ c) := by
  have G : ∀ {w' : World}, Fr (fun k => k = z) w w' → ∀ (i : Nat) (v : Value), Fr (fun k => k = z) w (w'.setCell ⟨z, i, none⟩ v) := fun f i v => Fr.setCell (S := fun k => k = z) (p := ⟨z, i, none⟩) f (fun _ => rfl) v
  refine ⟨?_, G (G (G (Fr.refl w) _ _) _ _) _ _⟩
  have := ((h.set 0 a).set 1 b).set 2 c
  simpa using this
set_option maxRecDepth 20000 in
set_option maxHeartbeats 1000000 in
theorem readTag1_any {w : World} {c : Nat} {K : Nat → Prop} {bs : List UInt8} {p : Nat} (h : CurAt w c K bs p) (bx : Nat) (B : Blk w bx 38 #[pt c]) (hbx : bx ≠ c) :
    Calls Tryz.prog 212 #[pt bx] w fun e w' => (∃ t x, e = .returned (.tuple #[tagV t, .int .i64 x]) ∧ tagOut (readTagS (bs.drop p)) t x) ∧ (∃ q, p ≤ q ∧ CurAt w' c K bs q ∧ ∀ v k, readTagS (bs.drop p) = .ok (v, k) → q = p + k) ∧ Fr (fun k => k = c) w w' := by
  have hlc := h.lt
  have hlb := B.lt
  obtain ⟨z, hz⟩ : ∃ z, z = w.heap.size := ⟨_, rfl⟩
  have BZ := Blk.new w 97 #[.int .i64 0, .int .i64 0, .bool false]
  have F0 : Fr (fun _ => False) w (w.alloc (.cells #[.int .i64 0, .int .i64 0, .bool false] 97)) := (Fr.refl w).alloc _
  have H := Lib.hid (h.step (K' := fun k => K k ∨ w.heap.size ≤ k) F0 (fun _ _ h => h.elim) (fun _ h => h))
  have e0 := (B.fr F0 (fun h => h)).cell 0
  simp at e0
  rw [← hz] at BZ
  have hzc : z ≠ c := by omega
  have hzw : ∀ k, k < w.heap.size → k = z → k = c := fun k hk e => by omega
  have HZ := Lib.hid hz
  clear h B hz
  cases hd : bs.drop p with
  | nil =>
    have HD := Lib.hid hd
    clear hd
    go_enter Tryz.func212, Tryz.ntmps212
    go_upto_region 1 with fail
    rw [← HZ.out]
    generalize (w.alloc (.cells #[.int .i64 0, .int .i64 0, .bool false] 97)) = w0 at *
    go_wp2_with fail
    refine (byte_end H.out HD.out).mono ?_
    rintro e w1 ⟨rfl, F1⟩
    replace BZ := BZ.fr F1 (fun h => h)
    have SZ := BZ.cell
    have ZZ := BZ.frozen
    go_wp2_with fail
    obtain ⟨B5, F5⟩ := set3 BZ (.int .i64 0) (.int .i64 0) (.bool false)
    have C5 := (H.out.old F1).step (K' := K) F5 (fun k _ e => .inr (by rw [e, HZ.out]; exact Nat.le_refl _)) (fun _ h => .inl (.inl h))
    have G5 : Fr (fun k => k = c) w _ := ((F0.trans F1).mono (fun _ _ h => h.elim)).trans' F5 hzw
    generalize (((w1.setCell ⟨z, 0, none⟩ (.int .i64 0)).setCell ⟨z, 1, none⟩ (.int .i64 0)).setCell ⟨z, 2, none⟩ (.bool false)) = w5 at *
    have n0 := B5.cell 0
    have n1 := B5.cell 1
    have n2 := B5.cell 2
    simp at n0 n1 n2
    refine bodyPost_ret (v := .tuple #[tagV ⟨0, 0, false⟩, .int .i64 3]) (by simp [results, Tryz.results212, go_sem, tagV, n0, n1, n2]) rfl ?_
    exact ⟨⟨_, _, rfl, by simp [tagOut, readTagS]⟩, ⟨p, Nat.le_refl _, C5, by simp [readTagS]⟩, G5⟩
  | cons x t =>
    have HD := Lib.hid hd
    clear hd
    obtain ⟨y, hy⟩ : ∃ y : Nat, y = x.toNat := ⟨_, rfl⟩
    have hyl : y < 256 := by rw [hy]; exact x.toNat_lt
    have ht : bs.drop (p + 1) = t := by rw [← List.drop_drop, HD.out]; rfl
    have HT := Lib.hid ht
    have hBy := Lib.hid (byte_on H.out HD.out)
    rw [← hy] at hBy
    obtain ⟨r, hr⟩ : ∃ r, r = y % 32 := ⟨_, rfl⟩
    obtain ⟨m, hm⟩ : ∃ m, m = y / 32 % 2 * 32 := ⟨_, rfl⟩
    have hb1 : bits .and .u8 (y : Int) 31 = (r : Int) := by rw [hr, hy]; exact and31 x
    have hb2 : bits .and .u8 (y : Int) 32 = (m : Int) := by rw [hm, hy]; exact and32 x
    have hw1 : wrap64 (r : Int) = (r : Int) := wrap_nat r (by omega)
    have HY := Lib.hid hy
    have HR := Lib.hid hr
    have HM := Lib.hid hm
    clear ht hy hr hm
    go_enter Tryz.func212, Tryz.ntmps212
    go_upto_region 1 with fail
    rw [← HZ.out]
    generalize (w.alloc (.cells #[.int .i64 0, .int .i64 0, .bool false] 97)) = w0 at *
    go_wp2_with fail
    refine hBy.out.mono ?_
    rintro e w1 ⟨rfl, C1, F1⟩
    have HC1 := Lib.hid C1
    replace BZ := BZ.fr F1 hzc
    replace e0 := F1.cell e0 hbx
    go_upto_region 5 with fail
    obtain ⟨mb, hmb⟩ : ∃ mb, mb = ((m : Int) != 0) := ⟨_, rfl⟩
    have hmade : mb = decide (x.toNat / 32 % 2 = 1) := by
      rw [hmb, HM.out, HY.out]
      have h2 : x.toNat / 32 % 2 = 0 ∨ x.toNat / 32 % 2 = 1 := by omega
      rcases h2 with h2 | h2 <;> rw [h2] <;> rfl
    have HMD := Lib.hid hmade
    rw [← hmb]
    obtain ⟨d, hd⟩ : ∃ d, d = w1.heap.size := ⟨_, rfl⟩
    have BD := Blk.new w1 97 #[.int .i64 ((y : Int) / 64), .int .i64 r, .bool mb]
    have F2 : Fr (fun _ => False) w1 (w1.alloc (.cells #[.int .i64 ((y : Int) / 64), .int .i64 r, .bool mb] 97)) := (Fr.refl w1).alloc _
    have hzl := BZ.lt
    replace BZ := BZ.fr F2 (fun h => h)
    replace e0 := F2.cell e0 (fun h => h)
    have C2 := C1.old F2
    have G2 := (F0.mono (T := fun k => k = c) (fun _ _ h => h.elim)).trans (F1.trans (F2.mono (fun _ _ h => h.elim)))
    rw [← hd] at BD ⊢
    have hsz : w.heap.size ≤ d := by rw [hd]; exact Nat.le_trans F0.size F1.size
    have hdz : d ≠ z := by omega
    have hdc : d ≠ c := by omega
    have hdb : d ≠ bx := by omega
    clear hd hmb C1 F1 F2 HC1 hBy F0 hb1 hb2 hw1 H hmade
    generalize (w1.alloc (.cells #[.int .i64 ((y : Int) / 64), .int .i64 r, .bool mb] 97)) = w2 at *
    have fin : ∀ (w5 : World) (tv : Tag), True → Blk w5 z 97 #[.int .i64 tv.cls, .int .i64 tv.num, .bool tv.made] → w5.cell? ⟨z, 0, none⟩ = some (.int .i64 tv.cls) ∧ w5.cell? ⟨z, 1, none⟩ = some (.int .i64 tv.num) ∧ w5.cell? ⟨z, 2, none⟩ = some (.bool tv.made) := fun w5 tv _ B => by
      have n0 := B.cell 0
      have n1 := B.cell 1
      have n2 := B.cell 2
      simp at n0 n1 n2
      exact ⟨n0, n1, n2⟩
    by_cases h31 : r = 31
    · subst h31
      have SD := BD.cell
      have FD := BD.frozen
      have HC2 := Lib.hid C2
      have HG2 := Lib.hid G2
      have HNU := Lib.hid (number_any C2)
      rw [HT.out] at HNU
      have hE : ∀ e, numS 0 0 t = .error e → readTagS (x :: t) = .error e := fun e h => by
        simp only [readTagS]
        rw [if_neg (by have := HR.out; have := HY.out; omega), h]
      have hE2 : ∀ n k, numS 0 0 t = .ok (n, k) → readTagS (x :: t) = .ok (⟨(y : Int) / 64, n, mb⟩, k + 1) := fun n k h => by
        simp only [readTagS]
        rw [if_neg (by have := HR.out; have := HY.out; omega), h, HMD.out, HY.out]
      have HE := Lib.hid hE
      have HE2 := Lib.hid hE2
      clear C2 G2 hE hE2
      go_wp2_with fail
      refine HNU.out.mono ?_
      rintro e w3 ⟨rfl, ⟨q, hq, C3, hpos⟩, F3⟩
      have HP := Lib.hid hpos
      have HC3 := Lib.hid C3
      have HG3 := Lib.hid (HG2.out.trans F3)
      replace BD := BD.fr F3 hdc
      replace BZ := BZ.fr F3 hzc
      replace SD := BD.cell
      replace FD := BD.frozen
      have SZ := BZ.cell
      have ZZ := BZ.frozen
      clear HC2 HG2 HNU C3 F3 hpos e0
      cases hr : numS 0 0 t with
      | error e0 =>
        have hE := HE.out e0 hr
        have HRR := Lib.hid hE
        clear hr hE
        simp only [numR]
        go_wp2_with fail
        have BZ4 := BZ.set_other (a := ⟨d, 1, none⟩) (fun e => hdz e.symm) (.int .i64 0)
        have F4 : Fr (fun k => k = d) w3 (w3.setCell ⟨d, 1, none⟩ (.int .i64 0)) := Fr.setCell (S := fun k => k = d) (p := ⟨d, 1, none⟩) (Fr.refl w3) (fun _ => rfl) _
        have C4 := HC3.out.step (K' := fun k => K k ∨ w.heap.size ≤ k) F4 (fun k _ e => .inr (by rw [e]; exact hsz)) (fun _ h => .inl h)
        have G4 := HG3.out.trans' F4 (fun i hi e => absurd hi (by omega))
        obtain ⟨B5, F5⟩ := set3 BZ4 (.int .i64 ((y : Int) / 64)) (.int .i64 0) (.bool mb)
        have C5 := C4.step (K' := K) F5 (fun k _ e => .inr (by rw [e, HZ.out]; exact Nat.le_refl _)) (fun _ h => .inl (.inl h))
        have G5 : Fr (fun k => k = c) w _ := G4.trans' F5 hzw
        generalize ((((w3.setCell ⟨d, 1, none⟩ (.int .i64 0)).setCell ⟨z, 0, none⟩ (.int .i64 ((y : Int) / 64))).setCell ⟨z, 1, none⟩ (.int .i64 0)).setCell ⟨z, 2, none⟩ (.bool mb)) = w5 at *
        obtain ⟨n0, n1, n2⟩ := fin w5 ⟨(y : Int) / 64, 0, mb⟩ trivial B5
        simp only at n0 n1 n2
        refine bodyPost_ret (v := .tuple #[tagV ⟨(y : Int) / 64, 0, mb⟩, .int .i64 e0]) (by simp [results, Tryz.results212, go_sem, tagV, n0, n1, n2]) rfl ?_
        rw [HRR.out]
        exact ⟨⟨_, _, rfl, rfl⟩, ⟨q, by omega, C5, by simp⟩, G5⟩
      | ok nk =>
        obtain ⟨n, k⟩ := nk
        have hE := HE2.out n k hr
        have hq2 := HP.out n k hr
        have HRR := Lib.hid hE
        clear hr hE
        simp only [numR]
        go_wp2_with fail
        have BZ4 := BZ.set_other (a := ⟨d, 1, none⟩) (fun e => hdz e.symm) (.int .i64 n)
        have F4 : Fr (fun k => k = d) w3 (w3.setCell ⟨d, 1, none⟩ (.int .i64 n)) := Fr.setCell (S := fun k => k = d) (p := ⟨d, 1, none⟩) (Fr.refl w3) (fun _ => rfl) _
        have C4 := HC3.out.step (K' := fun k => K k ∨ w.heap.size ≤ k) F4 (fun k _ e => .inr (by rw [e]; exact hsz)) (fun _ h => .inl h)
        have G4 := HG3.out.trans' F4 (fun i hi e => absurd hi (by omega))
        obtain ⟨B5, F5⟩ := set3 BZ4 (.int .i64 ((y : Int) / 64)) (.int .i64 n) (.bool mb)
        have C5 := C4.step (K' := K) F5 (fun k _ e => .inr (by rw [e, HZ.out]; exact Nat.le_refl _)) (fun _ h => .inl (.inl h))
        have G5 : Fr (fun k => k = c) w _ := G4.trans' F5 hzw
        generalize ((((w3.setCell ⟨d, 1, none⟩ (.int .i64 n)).setCell ⟨z, 0, none⟩ (.int .i64 ((y : Int) / 64))).setCell ⟨z, 1, none⟩ (.int .i64 n)).setCell ⟨z, 2, none⟩ (.bool mb)) = w5 at *
        obtain ⟨n0, n1, n2⟩ := fin w5 ⟨(y : Int) / 64, n, mb⟩ trivial B5
        simp only at n0 n1 n2
        refine bodyPost_ret (v := .tuple #[tagV ⟨(y : Int) / 64, n, mb⟩, .int .i64 0]) (by simp [results, Tryz.results212, go_sem, tagV, n0, n1, n2]) rfl ?_
        rw [HRR.out]
        refine ⟨⟨_, _, rfl, rfl, rfl⟩, ⟨q, by omega, C5, fun v' k' e => ?_⟩, G5⟩
        simp only [Except.ok.injEq, Prod.mk.injEq] at e
        omega
    · have h31' : ((r : Int) == 31) = false := beq_eq_false_iff_ne.2 (by omega)
      have SD := BD.cell
      have SZ := BZ.cell
      have ZZ := BZ.frozen
      have HC2 := Lib.hid C2
      have HG2 := Lib.hid G2
      clear C2 G2
      go_wp2_with fail
      obtain ⟨B5, F5⟩ := set3 BZ (.int .i64 ((y : Int) / 64)) (.int .i64 r) (.bool mb)
      have C5 := HC2.out.step (K' := K) F5 (fun k _ e => .inr (by rw [e, HZ.out]; exact Nat.le_refl _)) (fun _ h => .inl (.inl h))
      have G5 : Fr (fun k => k = c) w _ := HG2.out.trans' F5 hzw
      generalize (((w2.setCell ⟨z, 0, none⟩ (.int .i64 ((y : Int) / 64))).setCell ⟨z, 1, none⟩ (.int .i64 r)).setCell ⟨z, 2, none⟩ (.bool mb)) = w5 at *
      obtain ⟨n0, n1, n2⟩ := fin w5 ⟨(y : Int) / 64, r, mb⟩ trivial B5
      simp only at n0 n1 n2
      refine bodyPost_ret (v := .tuple #[tagV ⟨(y : Int) / 64, r, mb⟩, .int .i64 0]) (by simp [results, Tryz.results212, go_sem, tagV, n0, n1, n2]) rfl ?_
      have hE : readTagS (x :: t) = .ok (⟨(y : Int) / 64, r, mb⟩, 1) := by
        simp only [readTagS]
        rw [← HY.out, ← HR.out, if_pos (by have := HR.out; omega), HMD.out, HY.out, HR.out, HY.out]
        simp
      rw [hE]
      refine ⟨⟨_, _, rfl, rfl, rfl⟩, ⟨p + 1, by omega, C5, fun v k e => ?_⟩, G5⟩
      simp only [Except.ok.injEq, Prod.mk.injEq] at e
      omega
end Go.Proofs.YtacekpdjapgfcaaGreatDoor

namespace Go.Proofs.YtacekpdjapgfcaaGreatDoor
open Go Go.RowKit Go.Q
set_option maxRecDepth 20000 in
set_option maxHeartbeats 2000000 in
theorem readTag_any {w : World} {c : Nat} {K : Nat → Prop} {bs : List UInt8} {p : Nat} (h : CurAt w c K bs p) :
    Calls Tryz.prog 165 #[pt c] w fun e w' => (∃ t x, e = .returned (.tuple #[tagV t, .int .i64 x]) ∧ tagOut (readTagS (bs.drop p)) t x) ∧ CurAt w' c K bs (posOf p (readTagS (bs.drop p))) ∧ Fr (fun k => k = c) w w' := by
  have hlc := h.lt
  obtain ⟨bx, hbx⟩ : ∃ bx, bx = w.heap.size := ⟨_, rfl⟩
  have B := (Blk.new w 38 #[pt c]).alloc (.cells #[.int .i64 0, .int .i64 0, .bool false] 97)
  have BZ := Blk.new (w.alloc (.cells #[pt c] 38)) 97 #[.int .i64 0, .int .i64 0, .bool false]
  rw [World.size_alloc] at BZ
  have F : Fr (fun _ => False) w ((w.alloc (.cells #[pt c] 38)).alloc (.cells #[.int .i64 0, .int .i64 0, .bool false] 97)) := ((Fr.refl w).alloc _).alloc _
  have H := Lib.hid (h.step (K' := fun k => K k ∨ w.heap.size ≤ k) F (fun _ _ h => h.elim) (fun _ h => h))
  rw [← hbx] at B BZ
  have hbc : bx ≠ c := by omega
  have hzc : bx + 1 ≠ c := by omega
  have hnew : ∀ k, bx ≤ k → (fun k => K k ∨ w.heap.size ≤ k) k := fun k hk => .inr (by omega)
  have hold : ∀ k i, k < w.heap.size → bx ≤ i → k = i → k = c := fun k i hk hi e => by omega
  have HBX := Lib.hid hbx
  have HN := Lib.hid hnew
  have HO := Lib.hid hold
  have e0 := B.cell 0
  simp at e0
  clear h hlc hbx hnew hold
  go_enter Tryz.func165, Tryz.ntmps165
  go_upto_region 1 with fail
  rw [← HBX.out]
  generalize ((w.alloc (.cells #[pt c] 38)).alloc (.cells #[.int .i64 0, .int .i64 0, .bool false] 97)) = w0 at *
  go_wp2_with (first | (go_at_call 211; go_in))
  obtain ⟨r, hr⟩ : ∃ r, r = w0.heap.size := ⟨_, rfl⟩
  have BR := Blk.new w0 97 #[.int .i64 0, .int .i64 0, .bool false]
  have F1 : Fr (fun _ => False) w0 (w0.alloc (.cells #[.int .i64 0, .int .i64 0, .bool false] 97)) := (Fr.refl w0).alloc _
  have H1 := Lib.hid (H.out.old F1)
  have hlt := BZ.lt
  have hclt := H.out.lt
  rw [← hr] at BR ⊢
  replace B := B.fr F1 (fun h => h)
  replace BZ := BZ.fr F1 (fun h => h)
  have G1 := F.trans F1
  have hrc : r ≠ c := by omega
  have hrz : r ≠ bx + 1 := by omega
  have hrb : bx ≤ r := by omega
  have hrl := BR.lt
  have HRS := Lib.hid hr
  clear hr F F1 H hlt hclt e0
  generalize (w0.alloc (.cells #[.int .i64 0, .int .i64 0, .bool false] 97)) = w1 at *
  refine (at_any H1.out).mono ?_
  rintro e w1' ⟨rfl, rfl⟩
  go_wp2_with fail
  refine (readTag1_any H1.out bx B hbc).mono ?_
  rintro e w2 ⟨⟨t, x, rfl, ht⟩, ⟨q, hq, C2, hpos⟩, F2⟩
  have HP := Lib.hid hpos
  have HT := Lib.hid ht
  have HQ := Lib.hid hq
  replace BZ := BZ.fr F2 hzc
  replace BR := BR.fr F2 hrc
  have HG2 := Lib.hid ((G1.mono (T := fun k => k = c) (fun _ _ h => h.elim)).trans F2)
  have HC2 := Lib.hid C2
  have hclt := C2.lt
  obtain ⟨tc, tn, tm⟩ := t
  clear hpos F2 G1 ht hq C2 B H1 HRS
  rw [show tagV ⟨tc, tn, tm⟩ = .agg #[.int .i64 tc, .int .i64 tn, .bool tm] from rfl]
  go_upto_region 3 with fail
  obtain ⟨d, hd⟩ : ∃ d, d = w2.heap.size := ⟨_, rfl⟩
  have BD := Blk.new w2 97 #[.int .i64 tc, .int .i64 tn, .bool tm]
  have F3 : Fr (fun _ => False) w2 (w2.alloc (.cells #[.int .i64 tc, .int .i64 tn, .bool tm] 97)) := (Fr.refl w2).alloc _
  have hzl := BZ.lt
  have hrl2 := BR.lt
  replace BZ := BZ.fr F3 (fun h => h)
  replace BR := BR.fr F3 (fun h => h)
  have HG3 := Lib.hid (HG2.out.trans (F3.mono (fun _ _ h => h.elim)))
  have HC3 := Lib.hid (HC2.out.old F3)
  rw [← hd] at BD ⊢
  have hdz : d ≠ bx + 1 := by omega
  have hdr : d ≠ r := by omega
  have hdc : d ≠ c := by omega
  have hdb : bx ≤ d := by omega
  clear hd F3 HG2 HC2 hclt hzl hrl2
  generalize (w2.alloc (.cells #[.int .i64 tc, .int .i64 tn, .bool tm] 97)) = w3 at *
  by_cases hx : x = 0
  · subst hx
    have SZ := BZ.cell
    have ZZ := BZ.frozen
    have SR := BR.cell
    have ZR := BR.frozen
    have SD := BD.cell
    go_wp2_with fail
    obtain ⟨B5, F5⟩ := set3 BR (.int .i64 tc) (.int .i64 tn) (.bool tm)
    have BZ5 := BZ.fr F5 (fun e => hrz e.symm)
    have C5 := HC3.out.step (K' := fun k => K k ∨ w.heap.size ≤ k) F5 (fun k _ e => by rw [e]; exact HN.out r hrb) (fun _ h => .inl h)
    have G5 := HG3.out.trans' F5 (fun k hk e => HO.out k r hk hrb e)
    generalize (((w3.setCell ⟨r, 0, none⟩ (.int .i64 tc)).setCell ⟨r, 1, none⟩ (.int .i64 tn)).setCell ⟨r, 2, none⟩ (.bool tm)) = w5 at *
    have n0 := B5.cell 0
    have n1 := B5.cell 1
    have n2 := B5.cell 2
    simp at n0 n1 n2
    refine bodyPost_ret (v := .tuple #[.agg #[.int .i64 tc, .int .i64 tn, .bool tm], .int .i64 0]) (by simp [results, Tryz.results211, go_sem, n0, n1, n2]) rfl ?_
    clear SR ZR SZ ZZ B5 n0 n1 n2
    have SZ := BZ5.cell
    have ZZ := BZ5.frozen
    go_wp2_with fail
    obtain ⟨B6, F6⟩ := set3 BZ5 (.int .i64 tc) (.int .i64 tn) (.bool tm)
    have C6 := C5.step (K' := K) F6 (fun k _ e => by rw [e]; exact HN.out (bx + 1) (by omega)) (fun _ h => .inl (.inl h))
    have G6 := G5.trans' F6 (fun k hk e => HO.out k (bx + 1) hk (by omega) e)
    generalize (((w5.setCell ⟨bx + 1, 0, none⟩ (.int .i64 tc)).setCell ⟨bx + 1, 1, none⟩ (.int .i64 tn)).setCell ⟨bx + 1, 2, none⟩ (.bool tm)) = w6 at *
    have n0 := B6.cell 0
    have n1 := B6.cell 1
    have n2 := B6.cell 2
    simp at n0 n1 n2
    refine bodyPost_ret (v := .tuple #[.agg #[.int .i64 tc, .int .i64 tn, .bool tm], .int .i64 0]) (by simp [results, Tryz.results165, go_sem, n0, n1, n2]) rfl ?_
    cases hr : readTagS (bs.drop p) with
    | error e =>
      have ht := HT.out
      rw [hr] at ht
      exact absurd ht.symm (readTagS_err hr)
    | ok vk =>
      obtain ⟨v, k⟩ := vk
      have ht := HT.out
      rw [hr] at ht
      have := HP.out v k hr
      subst this
      exact ⟨⟨_, _, rfl, ht⟩, C6, G6⟩
  · have hx1 : (x == 0) = false := beq_eq_false_iff_ne.2 hx
    go_upto_region 5 with fail
    obtain ⟨u, hu⟩ : ∃ u, u = w3.heap.size := ⟨_, rfl⟩
    have BU := Blk.new w3 97 #[.int .i64 0, .int .i64 0, .bool false]
    have F4 : Fr (fun _ => False) w3 (w3.alloc (.cells #[.int .i64 0, .int .i64 0, .bool false] 97)) := (Fr.refl w3).alloc _
    have hzl := BZ.lt
    have hrl2 := BR.lt
    have hcl := HC3.out.lt
    replace BZ := BZ.fr F4 (fun h => h)
    replace BR := BR.fr F4 (fun h => h)
    have HG4 := Lib.hid (HG3.out.trans (F4.mono (fun _ _ h => h.elim)))
    have HC4 := Lib.hid (HC3.out.old F4)
    rw [← hu] at BU ⊢
    have huz : u ≠ bx + 1 := by omega
    have hur : u ≠ r := by omega
    have huc : u ≠ c := by omega
    clear hu F4 HG3 HC3 hcl hzl hrl2 BD
    generalize (w3.alloc (.cells #[.int .i64 0, .int .i64 0, .bool false] 97)) = w4 at *
    go_wp2_with fail
    refine (back_any HC4.out p HQ.out).mono ?_
    rintro e w4' ⟨rfl, C4, F4⟩
    replace BZ := BZ.fr F4 hzc
    replace BR := BR.fr F4 hrc
    replace BU := BU.fr F4 huc
    have G4 := HG4.out.trans F4
    have SZ := BZ.cell
    have ZZ := BZ.frozen
    have SR := BR.cell
    have ZR := BR.frozen
    have SU := BU.cell
    clear HG4 HC4 F4
    go_wp2_with fail
    obtain ⟨B5, F5⟩ := set3 BR (.int .i64 0) (.int .i64 0) (.bool false)
    have BZ5 := BZ.fr F5 (fun e => hrz e.symm)
    have C5 := C4.step (K' := fun k => K k ∨ w.heap.size ≤ k) F5 (fun k _ e => by rw [e]; exact HN.out r hrb) (fun _ h => .inl h)
    have G5 := G4.trans' F5 (fun k hk e => HO.out k r hk hrb e)
    generalize (((w4'.setCell ⟨r, 0, none⟩ (.int .i64 0)).setCell ⟨r, 1, none⟩ (.int .i64 0)).setCell ⟨r, 2, none⟩ (.bool false)) = w5 at *
    have n0 := B5.cell 0
    have n1 := B5.cell 1
    have n2 := B5.cell 2
    simp at n0 n1 n2
    refine bodyPost_ret (v := .tuple #[.agg #[.int .i64 0, .int .i64 0, .bool false], .int .i64 x]) (by simp [results, Tryz.results211, go_sem, n0, n1, n2]) rfl ?_
    clear SR ZR SZ ZZ B5 n0 n1 n2
    have SZ := BZ5.cell
    have ZZ := BZ5.frozen
    go_wp2_with fail
    obtain ⟨B6, F6⟩ := set3 BZ5 (.int .i64 0) (.int .i64 0) (.bool false)
    have C6 := C5.step (K' := K) F6 (fun k _ e => by rw [e]; exact HN.out (bx + 1) (by omega)) (fun _ h => .inl (.inl h))
    have G6 := G5.trans' F6 (fun k hk e => HO.out k (bx + 1) hk (by omega) e)
    generalize (((w5.setCell ⟨bx + 1, 0, none⟩ (.int .i64 0)).setCell ⟨bx + 1, 1, none⟩ (.int .i64 0)).setCell ⟨bx + 1, 2, none⟩ (.bool false)) = w6 at *
    have n0 := B6.cell 0
    have n1 := B6.cell 1
    have n2 := B6.cell 2
    simp at n0 n1 n2
    refine bodyPost_ret (v := .tuple #[.agg #[.int .i64 0, .int .i64 0, .bool false], .int .i64 x]) (by simp [results, Tryz.results165, go_sem, n0, n1, n2]) rfl ?_
    cases hr : readTagS (bs.drop p) with
    | error e =>
      have ht := HT.out
      rw [hr] at ht
      exact ⟨⟨⟨0, 0, false⟩, _, rfl, ht⟩, C6, G6⟩
    | ok vk =>
      obtain ⟨v, k⟩ := vk
      have ht := HT.out
      rw [hr] at ht
      exact absurd ht.2 hx
end Go.Proofs.YtacekpdjapgfcaaGreatDoor

namespace Go.Proofs.YtacekpdjapgfcaaGreatDoor
open Go Go.RowKit Go.Q
def frontOut (r : Except Int (Tag × Nat × Nat)) (t : Tag) (n : Nat) (e : Int) : Prop :=
  match r with
  | .ok (u, m, _) => t = u ∧ n = m ∧ e = 0
  | .error x => e = x
def frontV (t : Tag) (n : Nat) : Value := .agg #[.int .i64 t.cls, .int .i64 t.num, .bool t.made, .int .i64 n]
def posR (p : Nat) : Except Int (Tag × Nat × Nat) → Nat
  | .ok (_, _, k) => p + k
  | .error _ => p
theorem readS_err {l : List UInt8} {e : Int} (h : readS l = .error e) : e ≠ 0 := by
  unfold readS at h
  split at h
  · rename_i e' he
    cases h
    exact readTagS_err he
  · split at h
    · rename_i e' he
      cases h
      exact readLenS_err he
    · cases h
theorem readS_e1 {l : List UInt8} {e : Int} (h : readTagS l = .error e) : readS l = .error e := by
  unfold readS
  simp only [h]
theorem readS_e2 {l : List UInt8} {t : Tag} {k : Nat} {e : Int} (h : readTagS l = .ok (t, k)) (h2 : readLenS (l.drop k) = .error e) : readS l = .error e := by
  unfold readS
  simp only [h, h2]
theorem readS_ok {l : List UInt8} {t : Tag} {k n m : Nat} (h : readTagS l = .ok (t, k)) (h2 : readLenS (l.drop k) = .ok (n, m)) : readS l = .ok (t, n, k + m) := by
  unfold readS
  simp only [h, h2]
theorem set4 {w : World} {z : Nat} {t : TypeId} {x y u v : Value} (h : Blk w z t #[x, y, u, v]) (a b c d : Value) :
    Blk ((((w.setCell ⟨z, 0, none⟩ a).setCell ⟨z, 1, none⟩ b).setCell ⟨z, 2, none⟩ c).setCell ⟨z, 3, none⟩ d) z t #[a, b, c, d] ∧ Fr (fun k => k = z) w ((((w.setCell ⟨z, 0, none⟩ a).setCell ⟨z, 1, none⟩ b).setCell ⟨z, 2, none⟩ c).setCell ⟨z, 3, none⟩ d) := by
  have G : ∀ {w' : World}, Fr (fun k => k = z) w w' → ∀ (i : Nat) (v : Value), Fr (fun k => k = z) w (w'.setCell ⟨z, i, none⟩ v) := fun f i v => Fr.setCell (S := fun k => k = z) (p := ⟨z, i, none⟩) f (fun _ => rfl) v
  refine ⟨?_, G (G (G (G (Fr.refl w) _ _) _ _) _ _) _ _⟩
  have := (((h.set 0 a).set 1 b).set 2 c).set 3 d
  simpa using this
set_option maxRecDepth 20000 in
set_option maxHeartbeats 2000000 in
theorem read1_any {w : World} {c : Nat} {K : Nat → Prop} {bs : List UInt8} {p : Nat} (h : CurAt w c K bs p) (bx : Nat) (B : Blk w bx 38 #[pt c]) (hbx : bx ≠ c) :
    Calls Tryz.prog 164 #[pt bx] w fun e w' => (∃ t n x, e = .returned (.tuple #[frontV t n, .int .i64 x]) ∧ frontOut (readS (bs.drop p)) t n x) ∧ (∃ q, p ≤ q ∧ CurAt w' c K bs q ∧ ∀ t n k, readS (bs.drop p) = .ok (t, n, k) → q = p + k) ∧ Fr (fun k => k = c) w w' := by
  have hlc := h.lt
  have hlb := B.lt
  obtain ⟨z, hz⟩ : ∃ z, z = w.heap.size := ⟨_, rfl⟩
  have BZ := Blk.new w 188 #[.int .i64 0, .int .i64 0, .bool false, .int .i64 0]
  have F0 : Fr (fun _ => False) w (w.alloc (.cells #[.int .i64 0, .int .i64 0, .bool false, .int .i64 0] 188)) := (Fr.refl w).alloc _
  have H := Lib.hid (h.step (K' := fun k => K k ∨ w.heap.size ≤ k) F0 (fun _ _ h => h.elim) (fun _ h => h))
  replace B := B.fr F0 (fun h => h)
  have e0 := B.cell 0
  simp at e0
  rw [← hz] at BZ
  have hzc : z ≠ c := by omega
  have hzw : ∀ k, k < w.heap.size → k = z → k = c := fun k hk e => by omega
  have hbz : bx ≠ z := by omega
  have HZ := Lib.hid hz
  clear h hz
  go_enter Tryz.func164, Tryz.ntmps164
  go_upto_region 1 with fail
  rw [← HZ.out]
  generalize (w.alloc (.cells #[.int .i64 0, .int .i64 0, .bool false, .int .i64 0] 188)) = w0 at *
  go_wp2_with fail
  refine (readTag_any H.out).mono ?_
  rintro e w1 ⟨⟨t, x, rfl, ht⟩, C1, F1⟩
  obtain ⟨tc, tn, tm⟩ := t
  rw [show tagV ⟨tc, tn, tm⟩ = .agg #[.int .i64 tc, .int .i64 tn, .bool tm] from rfl]
  have HT := Lib.hid ht
  replace BZ := BZ.fr F1 hzc
  replace B := B.fr F1 hbx
  have hzl := BZ.lt
  have hbl := B.lt
  have hcl := C1.lt
  go_upto_region 2 with fail
  obtain ⟨d, hd⟩ : ∃ d, d = w1.heap.size := ⟨_, rfl⟩
  have BD := Blk.new w1 97 #[.int .i64 tc, .int .i64 tn, .bool tm]
  have F2 : Fr (fun _ => False) w1 (w1.alloc (.cells #[.int .i64 tc, .int .i64 tn, .bool tm] 97)) := (Fr.refl w1).alloc _
  replace BZ := BZ.fr F2 (fun h => h)
  replace B := B.fr F2 (fun h => h)
  have HC2 := Lib.hid (C1.old F2)
  have HG2 := Lib.hid (((F0.mono (T := fun k => k = c) (fun _ _ h => h.elim)).trans F1).trans (F2.mono (fun _ _ h => h.elim)))
  rw [← hd] at BD ⊢
  have hdz : d ≠ z := by omega
  have hdc : d ≠ c := by omega
  have hdw : ∀ k, k < w.heap.size → k = d → k = c := fun k hk e => by have := HZ.out; omega
  replace e0 := B.cell 0
  simp at e0
  clear hd F2 F1 C1 F0 H ht hzl hbl hcl
  generalize (w1.alloc (.cells #[.int .i64 tc, .int .i64 tn, .bool tm] 97)) = w2 at *
  by_cases hx : x = 0
  · subst hx
    have hok : ∃ k, readTagS (bs.drop p) = .ok (⟨tc, tn, tm⟩, k) := by
      have ht := HT.out
      cases hr : readTagS (bs.drop p) with
      | error e => rw [hr] at ht; exact absurd ht.symm (readTagS_err hr)
      | ok vk => obtain ⟨v, k⟩ := vk; rw [hr] at ht; exact ⟨k, by rw [ht.1]⟩
    obtain ⟨k, hk⟩ := hok
    have HK := Lib.hid hk
    have hc2 := HC2.out
    rw [hk] at hc2
    have HL := Lib.hid (readLength_any hc2)
    have SD := BD.cell
    clear HC2 hk hc2
    go_wp2_with fail
    refine HL.out.mono ?_
    rintro e w3 ⟨rfl, C3, F3⟩
    have hdd : bs.drop (posOf p (.ok (⟨tc, tn, tm⟩, k) : Except Int (Tag × Nat))) = (bs.drop p).drop k := by rw [List.drop_drop]; rfl
    rw [hdd] at C3 ⊢
    replace BZ := BZ.fr F3 hzc
    replace BD := BD.fr F3 hdc
    have HG3 := Lib.hid (HG2.out.trans F3)
    have HC3 := Lib.hid C3
    have SZ := BZ.cell
    have ZZ := BZ.frozen
    replace SD := BD.cell
    clear F3 C3 HG2 HL e0 B
    cases hr : readLenS ((bs.drop p).drop k) with
    | error e1 =>
      have hE := readS_e2 HK.out hr
      have HE := Lib.hid hE
      have HR := Lib.hid hr
      clear hr hE
      simp only [numR]
      go_wp2_with fail
      obtain ⟨B5, F5⟩ := set4 BZ (.int .i64 tc) (.int .i64 tn) (.bool tm) (.int .i64 0)
      have C5 := HC3.out.step (K' := K) F5 (fun k _ e => .inr (by rw [e, HZ.out]; exact Nat.le_refl _)) (fun _ h => .inl (.inl h))
      have G5 := HG3.out.trans' F5 hzw
      generalize ((((w3.setCell ⟨z, 0, none⟩ (.int .i64 tc)).setCell ⟨z, 1, none⟩ (.int .i64 tn)).setCell ⟨z, 2, none⟩ (.bool tm)).setCell ⟨z, 3, none⟩ (.int .i64 0)) = w5 at *
      have n0 := B5.cell 0
      have n1 := B5.cell 1
      have n2 := B5.cell 2
      have n3 := B5.cell 3
      simp at n0 n1 n2 n3
      refine bodyPost_ret (v := .tuple #[.agg #[.int .i64 tc, .int .i64 tn, .bool tm, .int .i64 0], .int .i64 e1]) (by simp [results, Tryz.results164, go_sem, n0, n1, n2, n3]) rfl ?_
      rw [HR.out] at C5
      rw [HE.out]
      exact ⟨⟨⟨tc, tn, tm⟩, 0, _, rfl, rfl⟩, ⟨p + k, by omega, C5, by simp⟩, G5⟩
    | ok vk =>
      obtain ⟨v, m⟩ := vk
      have hE := readS_ok HK.out hr
      have HE := Lib.hid hE
      have HR := Lib.hid hr
      clear hr hE
      simp only [numR]
      go_wp2_with fail
      obtain ⟨B5, F5⟩ := set4 BZ (.int .i64 tc) (.int .i64 tn) (.bool tm) (.int .i64 v)
      have C5 := HC3.out.step (K' := K) F5 (fun k _ e => .inr (by rw [e, HZ.out]; exact Nat.le_refl _)) (fun _ h => .inl (.inl h))
      have G5 := HG3.out.trans' F5 hzw
      generalize ((((w3.setCell ⟨z, 0, none⟩ (.int .i64 tc)).setCell ⟨z, 1, none⟩ (.int .i64 tn)).setCell ⟨z, 2, none⟩ (.bool tm)).setCell ⟨z, 3, none⟩ (.int .i64 v)) = w5 at *
      have n0 := B5.cell 0
      have n1 := B5.cell 1
      have n2 := B5.cell 2
      have n3 := B5.cell 3
      simp at n0 n1 n2 n3
      refine bodyPost_ret (v := .tuple #[.agg #[.int .i64 tc, .int .i64 tn, .bool tm, .int .i64 v], .int .i64 0]) (by simp [results, Tryz.results164, go_sem, n0, n1, n2, n3]) rfl ?_
      rw [HR.out] at C5
      rw [HE.out]
      refine ⟨⟨⟨tc, tn, tm⟩, v, _, rfl, rfl, rfl, rfl⟩, ⟨p + k + m, by omega, C5, fun t' n' k' e => ?_⟩, G5⟩
      simp only [Except.ok.injEq, Prod.mk.injEq] at e
      omega
  · have hx1 : (x == 0) = false := beq_eq_false_iff_ne.2 hx
    have herr : readTagS (bs.drop p) = .error x := by
      have ht := HT.out
      cases hr : readTagS (bs.drop p) with
      | error e => rw [hr] at ht; rw [show x = e from ht]
      | ok vk => obtain ⟨v, k⟩ := vk; rw [hr] at ht; exact absurd ht.2 hx
    have hE := readS_e1 herr
    have HE := Lib.hid hE
    have hc2 := HC2.out
    rw [herr] at hc2
    have HC3 := Lib.hid hc2
    have SZ := BZ.cell
    have ZZ := BZ.frozen
    clear herr hE HC2 hc2
    go_wp2_with fail
    obtain ⟨B5, F5⟩ := set4 BZ (.int .i64 0) (.int .i64 0) (.bool false) (.int .i64 0)
    have C5 := HC3.out.step (K' := K) F5 (fun k _ e => .inr (by rw [e, HZ.out]; exact Nat.le_refl _)) (fun _ h => .inl (.inl h))
    have G5 := HG2.out.trans' F5 hzw
    generalize ((((w2.setCell ⟨z, 0, none⟩ (.int .i64 0)).setCell ⟨z, 1, none⟩ (.int .i64 0)).setCell ⟨z, 2, none⟩ (.bool false)).setCell ⟨z, 3, none⟩ (.int .i64 0)) = w5 at *
    have n0 := B5.cell 0
    have n1 := B5.cell 1
    have n2 := B5.cell 2
    have n3 := B5.cell 3
    simp at n0 n1 n2 n3
    refine bodyPost_ret (v := .tuple #[.agg #[.int .i64 0, .int .i64 0, .bool false, .int .i64 0], .int .i64 x]) (by simp [results, Tryz.results164, go_sem, n0, n1, n2, n3]) rfl ?_
    rw [HE.out]
    exact ⟨⟨⟨0, 0, false⟩, 0, _, rfl, rfl⟩, ⟨p, Nat.le_refl _, C5, by simp⟩, G5⟩
end Go.Proofs.YtacekpdjapgfcaaGreatDoor

namespace Go.Proofs.YtacekpdjapgfcaaGreatDoor
open Go Go.RowKit Go.Q
set_option maxRecDepth 20000 in
set_option maxHeartbeats 2000000 in
theorem read_any {w : World} {c : Nat} {K : Nat → Prop} {bs : List UInt8} {p : Nat} (h : CurAt w c K bs p) :
    Calls Tryz.prog 126 #[pt c] w fun e w' => (∃ t n x, e = .returned (.tuple #[frontV t n, .int .i64 x]) ∧ frontOut (readS (bs.drop p)) t n x) ∧ CurAt w' c K bs (posR p (readS (bs.drop p))) ∧ Fr (fun k => k = c) w w' := by
  have hlc := h.lt
  obtain ⟨bx, hbx⟩ : ∃ bx, bx = w.heap.size := ⟨_, rfl⟩
  have B := (Blk.new w 38 #[pt c]).alloc (.cells #[.int .i64 0, .int .i64 0, .bool false, .int .i64 0] 188)
  have BZ := Blk.new (w.alloc (.cells #[pt c] 38)) 188 #[.int .i64 0, .int .i64 0, .bool false, .int .i64 0]
  rw [World.size_alloc] at BZ
  have F : Fr (fun _ => False) w ((w.alloc (.cells #[pt c] 38)).alloc (.cells #[.int .i64 0, .int .i64 0, .bool false, .int .i64 0] 188)) := ((Fr.refl w).alloc _).alloc _
  have H := Lib.hid (h.step (K' := fun k => K k ∨ w.heap.size ≤ k) F (fun _ _ h => h.elim) (fun _ h => h))
  rw [← hbx] at B BZ
  have hbc : bx ≠ c := by omega
  have hzc : bx + 1 ≠ c := by omega
  have hnew : ∀ k, bx ≤ k → (fun k => K k ∨ w.heap.size ≤ k) k := fun k hk => .inr (by omega)
  have hold : ∀ k i, k < w.heap.size → bx ≤ i → k = i → k = c := fun k i hk hi e => by omega
  have HBX := Lib.hid hbx
  have HN := Lib.hid hnew
  have HO := Lib.hid hold
  have e0 := B.cell 0
  simp at e0
  clear h hlc hbx hnew hold
  go_enter Tryz.func126, Tryz.ntmps126
  go_upto_region 1 with fail
  rw [← HBX.out]
  generalize ((w.alloc (.cells #[pt c] 38)).alloc (.cells #[.int .i64 0, .int .i64 0, .bool false, .int .i64 0] 188)) = w0 at *
  go_wp2_with (first | (go_at_call 163; go_in))
  obtain ⟨r, hr⟩ : ∃ r, r = w0.heap.size := ⟨_, rfl⟩
  have BR := Blk.new w0 188 #[.int .i64 0, .int .i64 0, .bool false, .int .i64 0]
  have F1 : Fr (fun _ => False) w0 (w0.alloc (.cells #[.int .i64 0, .int .i64 0, .bool false, .int .i64 0] 188)) := (Fr.refl w0).alloc _
  have H1 := Lib.hid (H.out.old F1)
  have hlt := BZ.lt
  have hclt := H.out.lt
  rw [← hr] at BR ⊢
  replace B := B.fr F1 (fun h => h)
  replace BZ := BZ.fr F1 (fun h => h)
  have G1 := F.trans F1
  have hrc : r ≠ c := by omega
  have hrz : r ≠ bx + 1 := by omega
  have hrb : bx ≤ r := by omega
  have hrl := BR.lt
  have HRS := Lib.hid hr
  clear hr F F1 H hlt hclt e0
  generalize (w0.alloc (.cells #[.int .i64 0, .int .i64 0, .bool false, .int .i64 0] 188)) = w1 at *
  refine (at_any H1.out).mono ?_
  rintro e w1' ⟨rfl, rfl⟩
  go_wp2_with fail
  refine (read1_any H1.out bx B hbc).mono ?_
  rintro e w2 ⟨⟨t, fn, x, rfl, ht⟩, ⟨q, hq, C2, hpos⟩, F2⟩
  have HP := Lib.hid hpos
  have HT := Lib.hid ht
  have HQ := Lib.hid hq
  replace BZ := BZ.fr F2 hzc
  replace BR := BR.fr F2 hrc
  have HG2 := Lib.hid ((G1.mono (T := fun k => k = c) (fun _ _ h => h.elim)).trans F2)
  have HC2 := Lib.hid C2
  have hclt := C2.lt
  obtain ⟨tc, tn, tm⟩ := t
  clear hpos F2 G1 ht hq C2 B H1 HRS
  rw [show frontV ⟨tc, tn, tm⟩ fn = .agg #[.int .i64 tc, .int .i64 tn, .bool tm, .int .i64 fn] from rfl]
  go_upto_region 3 with fail
  obtain ⟨d, hd⟩ : ∃ d, d = w2.heap.size := ⟨_, rfl⟩
  have BD := Blk.new w2 188 #[.int .i64 tc, .int .i64 tn, .bool tm, .int .i64 fn]
  have F3 : Fr (fun _ => False) w2 (w2.alloc (.cells #[.int .i64 tc, .int .i64 tn, .bool tm, .int .i64 fn] 188)) := (Fr.refl w2).alloc _
  have hzl := BZ.lt
  have hrl2 := BR.lt
  replace BZ := BZ.fr F3 (fun h => h)
  replace BR := BR.fr F3 (fun h => h)
  have HG3 := Lib.hid (HG2.out.trans (F3.mono (fun _ _ h => h.elim)))
  have HC3 := Lib.hid (HC2.out.old F3)
  rw [← hd] at BD ⊢
  have hdz : d ≠ bx + 1 := by omega
  have hdr : d ≠ r := by omega
  have hdc : d ≠ c := by omega
  have hdb : bx ≤ d := by omega
  clear hd F3 HG2 HC2 hclt hzl hrl2
  generalize (w2.alloc (.cells #[.int .i64 tc, .int .i64 tn, .bool tm, .int .i64 fn] 188)) = w3 at *
  by_cases hx : x = 0
  · subst hx
    have SZ := BZ.cell
    have ZZ := BZ.frozen
    have SR := BR.cell
    have ZR := BR.frozen
    have SD := BD.cell
    go_wp2_with fail
    obtain ⟨B5, F5⟩ := set4 BR (.int .i64 tc) (.int .i64 tn) (.bool tm) (.int .i64 fn)
    have BZ5 := BZ.fr F5 (fun e => hrz e.symm)
    have C5 := HC3.out.step (K' := fun k => K k ∨ w.heap.size ≤ k) F5 (fun k _ e => by rw [e]; exact HN.out r hrb) (fun _ h => .inl h)
    have G5 := HG3.out.trans' F5 (fun k hk e => HO.out k r hk hrb e)
    generalize ((((w3.setCell ⟨r, 0, none⟩ (.int .i64 tc)).setCell ⟨r, 1, none⟩ (.int .i64 tn)).setCell ⟨r, 2, none⟩ (.bool tm)).setCell ⟨r, 3, none⟩ (.int .i64 fn)) = w5 at *
    have n0 := B5.cell 0
    have n1 := B5.cell 1
    have n2 := B5.cell 2
    have n3 := B5.cell 3
    simp at n0 n1 n2 n3
    refine bodyPost_ret (v := .tuple #[.agg #[.int .i64 tc, .int .i64 tn, .bool tm, .int .i64 fn], .int .i64 0]) (by simp [results, Tryz.results163, go_sem, n0, n1, n2, n3]) rfl ?_
    clear SR ZR SZ ZZ B5 n0 n1 n2 n3
    have SZ := BZ5.cell
    have ZZ := BZ5.frozen
    go_wp2_with fail
    obtain ⟨B6, F6⟩ := set4 BZ5 (.int .i64 tc) (.int .i64 tn) (.bool tm) (.int .i64 fn)
    have C6 := C5.step (K' := K) F6 (fun k _ e => by rw [e]; exact HN.out (bx + 1) (by omega)) (fun _ h => .inl (.inl h))
    have G6 := G5.trans' F6 (fun k hk e => HO.out k (bx + 1) hk (by omega) e)
    generalize ((((w5.setCell ⟨bx + 1, 0, none⟩ (.int .i64 tc)).setCell ⟨bx + 1, 1, none⟩ (.int .i64 tn)).setCell ⟨bx + 1, 2, none⟩ (.bool tm)).setCell ⟨bx + 1, 3, none⟩ (.int .i64 fn)) = w6 at *
    have n0 := B6.cell 0
    have n1 := B6.cell 1
    have n2 := B6.cell 2
    have n3 := B6.cell 3
    simp at n0 n1 n2 n3
    refine bodyPost_ret (v := .tuple #[.agg #[.int .i64 tc, .int .i64 tn, .bool tm, .int .i64 fn], .int .i64 0]) (by simp [results, Tryz.results126, go_sem, n0, n1, n2, n3]) rfl ?_
    cases hr : readS (bs.drop p) with
    | error e =>
      have ht := HT.out
      rw [hr] at ht
      exact absurd ht.symm (readS_err hr)
    | ok vk =>
      obtain ⟨v, m, k⟩ := vk
      have ht := HT.out
      rw [hr] at ht
      have := HP.out v m k hr
      subst this
      exact ⟨⟨_, _, _, rfl, ht⟩, C6, G6⟩
  · have hx1 : (x == 0) = false := beq_eq_false_iff_ne.2 hx
    go_upto_region 5 with fail
    obtain ⟨u, hu⟩ : ∃ u, u = w3.heap.size := ⟨_, rfl⟩
    have BU := Blk.new w3 188 #[.int .i64 0, .int .i64 0, .bool false, .int .i64 0]
    have F4 : Fr (fun _ => False) w3 (w3.alloc (.cells #[.int .i64 0, .int .i64 0, .bool false, .int .i64 0] 188)) := (Fr.refl w3).alloc _
    have hzl := BZ.lt
    have hrl2 := BR.lt
    have hcl := HC3.out.lt
    replace BZ := BZ.fr F4 (fun h => h)
    replace BR := BR.fr F4 (fun h => h)
    have HG4 := Lib.hid (HG3.out.trans (F4.mono (fun _ _ h => h.elim)))
    have HC4 := Lib.hid (HC3.out.old F4)
    rw [← hu] at BU ⊢
    have huz : u ≠ bx + 1 := by omega
    have hur : u ≠ r := by omega
    have huc : u ≠ c := by omega
    clear hu F4 HG3 HC3 hcl hzl hrl2 BD
    generalize (w3.alloc (.cells #[.int .i64 0, .int .i64 0, .bool false, .int .i64 0] 188)) = w4 at *
    go_wp2_with fail
    refine (back_any HC4.out p HQ.out).mono ?_
    rintro e w4' ⟨rfl, C4, F4⟩
    replace BZ := BZ.fr F4 hzc
    replace BR := BR.fr F4 hrc
    replace BU := BU.fr F4 huc
    have G4 := HG4.out.trans F4
    have SZ := BZ.cell
    have ZZ := BZ.frozen
    have SR := BR.cell
    have ZR := BR.frozen
    have SU := BU.cell
    clear HG4 HC4 F4
    go_wp2_with fail
    obtain ⟨B5, F5⟩ := set4 BR (.int .i64 0) (.int .i64 0) (.bool false) (.int .i64 0)
    have BZ5 := BZ.fr F5 (fun e => hrz e.symm)
    have C5 := C4.step (K' := fun k => K k ∨ w.heap.size ≤ k) F5 (fun k _ e => by rw [e]; exact HN.out r hrb) (fun _ h => .inl h)
    have G5 := G4.trans' F5 (fun k hk e => HO.out k r hk hrb e)
    generalize ((((w4'.setCell ⟨r, 0, none⟩ (.int .i64 0)).setCell ⟨r, 1, none⟩ (.int .i64 0)).setCell ⟨r, 2, none⟩ (.bool false)).setCell ⟨r, 3, none⟩ (.int .i64 0)) = w5 at *
    have n0 := B5.cell 0
    have n1 := B5.cell 1
    have n2 := B5.cell 2
    have n3 := B5.cell 3
    simp at n0 n1 n2 n3
    refine bodyPost_ret (v := .tuple #[.agg #[.int .i64 0, .int .i64 0, .bool false, .int .i64 0], .int .i64 x]) (by simp [results, Tryz.results163, go_sem, n0, n1, n2, n3]) rfl ?_
    clear SR ZR SZ ZZ B5 n0 n1 n2 n3
    have SZ := BZ5.cell
    have ZZ := BZ5.frozen
    go_wp2_with fail
    obtain ⟨B6, F6⟩ := set4 BZ5 (.int .i64 0) (.int .i64 0) (.bool false) (.int .i64 0)
    have C6 := C5.step (K' := K) F6 (fun k _ e => by rw [e]; exact HN.out (bx + 1) (by omega)) (fun _ h => .inl (.inl h))
    have G6 := G5.trans' F6 (fun k hk e => HO.out k (bx + 1) hk (by omega) e)
    generalize ((((w5.setCell ⟨bx + 1, 0, none⟩ (.int .i64 0)).setCell ⟨bx + 1, 1, none⟩ (.int .i64 0)).setCell ⟨bx + 1, 2, none⟩ (.bool false)).setCell ⟨bx + 1, 3, none⟩ (.int .i64 0)) = w6 at *
    have n0 := B6.cell 0
    have n1 := B6.cell 1
    have n2 := B6.cell 2
    have n3 := B6.cell 3
    simp at n0 n1 n2 n3
    refine bodyPost_ret (v := .tuple #[.agg #[.int .i64 0, .int .i64 0, .bool false, .int .i64 0], .int .i64 x]) (by simp [results, Tryz.results126, go_sem, n0, n1, n2, n3]) rfl ?_
    cases hr : readS (bs.drop p) with
    | error e =>
      have ht := HT.out
      rw [hr] at ht
      exact ⟨⟨⟨0, 0, false⟩, 0, _, rfl, ht⟩, C6, G6⟩
    | ok vk =>
      obtain ⟨v, m, k⟩ := vk
      have ht := HT.out
      rw [hr] at ht
      exact absurd ht.2.2 hx
end Go.Proofs.YtacekpdjapgfcaaGreatDoor

namespace Go.Proofs.YtacekpdjapgfcaaGreatDoor
open Go Go.RowKit Go.Q
set_option maxRecDepth 20000 in
set_option maxHeartbeats 2000000 in
theorem headRead_any {w : World} {c : Nat} {K : Nat → Prop} {bs : List UInt8} {p : Nat} (h : CurAt w c K bs p) :
    Calls Tryz.prog 119 #[pt c] w fun e w' => (∃ t n x, e = .returned (.tuple #[tagV t, .int .i64 (n : Nat), .int .i64 x]) ∧ frontOut (readS (bs.drop p)) t n x) ∧ CurAt w' c K bs (posR p (readS (bs.drop p))) ∧ Fr (fun k => k = c) w w' := by
  have hlc := h.lt
  obtain ⟨z, hz⟩ : ∃ z, z = w.heap.size := ⟨_, rfl⟩
  have BZ := Blk.new w 97 #[.int .i64 0, .int .i64 0, .bool false]
  have F0 : Fr (fun _ => False) w (w.alloc (.cells #[.int .i64 0, .int .i64 0, .bool false] 97)) := (Fr.refl w).alloc _
  have H := Lib.hid (h.step (K' := fun k => K k ∨ w.heap.size ≤ k) F0 (fun _ _ h => h.elim) (fun _ h => h))
  rw [← hz] at BZ
  have hzc : z ≠ c := by omega
  have hzw : ∀ k, k < w.heap.size → k = z → k = c := fun k hk e => by omega
  have HZ := Lib.hid hz
  clear h hz
  go_enter Tryz.func119, Tryz.ntmps119
  go_upto_region 1 with fail
  rw [← HZ.out]
  generalize (w.alloc (.cells #[.int .i64 0, .int .i64 0, .bool false] 97)) = w0 at *
  go_wp2_with fail
  refine (read_any H.out).mono ?_
  rintro e w1 ⟨⟨t, n, x, rfl, ht⟩, C1, F1⟩
  obtain ⟨tc, tn, tm⟩ := t
  rw [show frontV ⟨tc, tn, tm⟩ n = .agg #[.int .i64 tc, .int .i64 tn, .bool tm, .int .i64 n] from rfl]
  have HT := Lib.hid ht
  replace BZ := BZ.fr F1 hzc
  have hzl := BZ.lt
  go_upto_region 2 with fail
  obtain ⟨d, hd⟩ : ∃ d, d = w1.heap.size := ⟨_, rfl⟩
  have BD := Blk.new w1 188 #[.int .i64 tc, .int .i64 tn, .bool tm, .int .i64 n]
  have F2 : Fr (fun _ => False) w1 (w1.alloc (.cells #[.int .i64 tc, .int .i64 tn, .bool tm, .int .i64 n] 188)) := (Fr.refl w1).alloc _
  replace BZ := BZ.fr F2 (fun h => h)
  have HC2 := Lib.hid (C1.old F2)
  have HG2 := Lib.hid (((F0.mono (T := fun k => k = c) (fun _ _ h => h.elim)).trans F1).trans (F2.mono (fun _ _ h => h.elim)))
  rw [← hd] at BD ⊢
  have hdz : d ≠ z := by omega
  clear hd F2 F1 C1 F0 H ht hzl
  generalize (w1.alloc (.cells #[.int .i64 tc, .int .i64 tn, .bool tm, .int .i64 n] 188)) = w2 at *
  have SZ := BZ.cell
  have ZZ := BZ.frozen
  have SD := BD.cell
  go_region
  all_goals
    go_wp2_with fail
    obtain ⟨B5, F5⟩ := set3 BZ (.int .i64 tc) (.int .i64 tn) (.bool tm)
    have C5 := HC2.out.step (K' := K) F5 (fun k _ e => .inr (by rw [e, HZ.out]; exact Nat.le_refl _)) (fun _ h => .inl (.inl h))
    have G5 := HG2.out.trans' F5 hzw
    generalize (((w2.setCell ⟨z, 0, none⟩ (.int .i64 tc)).setCell ⟨z, 1, none⟩ (.int .i64 tn)).setCell ⟨z, 2, none⟩ (.bool tm)) = w5 at *
    have n0 := B5.cell 0
    have n1 := B5.cell 1
    have n2 := B5.cell 2
    simp at n0 n1 n2
    refine bodyPost_ret (v := .tuple #[.agg #[.int .i64 tc, .int .i64 tn, .bool tm], .int .i64 n, .int .i64 x]) (by simp [results, Tryz.results119, go_sem, n0, n1, n2]) rfl ?_
    exact ⟨⟨⟨tc, tn, tm⟩, n, x, rfl, HT.out⟩, C5.old (Fr.refl w5).drew, G5.drew⟩
end Go.Proofs.YtacekpdjapgfcaaGreatDoor

namespace Go.Proofs.YtacekpdjapgfcaaGreatDoor
open Go Go.RowKit Go.Q
set_option maxRecDepth 20000 in
theorem headOf_any (n : Int) (w : World) :
    Calls Tryz.prog 56 #[.int .i64 n] w fun e w' => e = .returned (tagV (tagOf n)) ∧ Fr (fun _ => False) w w' := by
  rcases Classical.em (n = 16) with h | h
  case' inl => subst h
  case' inr => have h16 : (n == 16) = false := beq_eq_false_iff_ne.2 h
  case' inl =>
    go_enter Tryz.func56, Tryz.ntmps56
    go_wp2_with fail
    exact bodyPost_ret (v := tagV ⟨0, 16, true⟩) (by simp [results, Tryz.results56, go_sem, tagV]) rfl ⟨rfl, (Fr.refl w).alloc _⟩
  case' inr =>
    go_enter Tryz.func56, Tryz.ntmps56
    go_wp2_with fail
    exact bodyPost_ret (v := tagV ⟨0, n, n == 17⟩) (by simp [results, Tryz.results56, go_sem, tagV]) rfl ⟨by simp [tagOf, tagV, h16], (Fr.refl w).alloc _⟩
set_option maxRecDepth 20000 in
theorem headRight_any (t : Tag) (h : tagGood t) (w : World) :
    Calls Tryz.prog 169 #[tagV t] w fun e w' => e = .returned (.bool true) ∧ Fr (fun _ => False) w w' := by
  obtain ⟨⟨h1, h2⟩, h3, h4⟩ := h
  obtain ⟨c, n, m⟩ := t
  simp only at h1 h2 h3 h4
  have q1 : decide (0 ≤ c) = true := decide_eq_true h1
  have q2 : decide (c ≤ 3) = true := decide_eq_true (by omega)
  have q3 : decide (0 ≤ n) = true := decide_eq_true h3
  have q4 : decide (n < 2097152) = true := decide_eq_true (by omega)
  rw [show tagV ⟨c, n, m⟩ = .agg #[.int .i64 c, .int .i64 n, .bool m] from rfl]
  go_enter Tryz.func169, Tryz.ntmps169
  go_wp2_with fail
  go_ret
  exact ⟨rfl, (Fr.refl w).alloc _⟩
set_option maxRecDepth 20000 in
theorem first_any (t : Tag) (h : tagGood t) (w : World) :
    Calls Tryz.prog 170 #[tagV t] w fun e w' => e = .returned (.int .u8 (t.cls * 64 + (if t.made then 32 else 0))) ∧ Fr (fun _ => False) w w' := by
  obtain ⟨⟨h1, h2⟩, h3, h4⟩ := h
  obtain ⟨c, n, m⟩ := t
  simp only at h1 h2 h3 h4
  rw [show tagV ⟨c, n, m⟩ = .agg #[.int .i64 c, .int .i64 n, .bool m] from rfl]
  have hc : c = 0 ∨ c = 1 ∨ c = 2 ∨ c = 3 := by omega
  rcases hc with rfl | rfl | rfl | rfl <;> cases m
  all_goals
    go_enter Tryz.func170, Tryz.ntmps170
    go_wp2_with fail
    go_ret
    exact ⟨by rfl, (Fr.refl w).alloc _⟩
theorem tagByte_val {t : Tag} (h : tagGood t) : ((tagByte t).toNat : Int) = t.cls * 64 + (if t.made then 32 else 0) + t.num := by
  obtain ⟨⟨h1, h2⟩, h3, h4⟩ := h
  obtain ⟨c, n, m⟩ := t
  simp only at h1 h2 h3 h4
  unfold tagByte
  rw [u8' _ (by cases m <;> simp <;> omega)]
  cases m <;> simp <;> omega
theorem or_tag {t : Tag} (h : tagGood t) : bits .or .u8 (t.cls * 64 + (if t.made then 32 else 0)) t.num = ((tagByte t).toNat : Int) := by
  have hv := tagByte_val h
  obtain ⟨⟨h1, h2⟩, h3, h4⟩ := h
  obtain ⟨a, ha⟩ : ∃ a : Nat, t.cls * 64 + (if t.made then 32 else 0) = (a : Int) ∧ a % 32 = 0 ∧ a < 256 := ⟨(t.cls * 64 + (if t.made then 32 else 0)).toNat, by cases t.made <;> simp <;> omega⟩
  obtain ⟨b, hb⟩ : ∃ b : Nat, t.num = (b : Int) := ⟨t.num.toNat, by omega⟩
  rw [hv, ha.1, hb, u8_or_nat a b (by omega) (by omega), nat_join 5 a b (by omega) (by omega)]
  simp
set_option maxRecDepth 20000 in
theorem headBytes_any (t : Tag) (h : tagGood t) (w : World) :
    Calls Tryz.prog 132 #[tagV t] w fun e w' => ∃ v, e = .returned (.tuple #[v, .int .i64 0]) ∧ w'.ownsRow w.heap.size 5 1 v 1 (Lib.byteCells [tagByte t]) ∧ Fr (fun _ => False) w w' := by
  have HO := Lib.hid (or_tag h)
  have HH := Lib.hid h
  obtain ⟨⟨h1, h2⟩, h3, h4⟩ := h
  obtain ⟨c, n, m⟩ := t
  simp only at h1 h2 h3 h4
  obtain ⟨f, hf⟩ : ∃ f, f = c * 64 + (if m then 32 else 0) := ⟨_, rfl⟩
  have HF := Lib.hid hf
  have B := Blk.new w 97 #[.int .i64 c, .int .i64 n, .bool m]
  have F0 : Fr (fun _ => False) w (w.alloc (.cells #[.int .i64 c, .int .i64 n, .bool m] 97)) := (Fr.refl w).alloc _
  obtain ⟨z, hz⟩ : ∃ z, z = w.heap.size := ⟨_, rfl⟩
  rw [← hz] at B
  have HZ := Lib.hid hz
  clear hf hz
  rw [show tagV ⟨c, n, m⟩ = .agg #[.int .i64 c, .int .i64 n, .bool m] from rfl]
  go_enter Tryz.func132, Tryz.ntmps132
  go_upto_region 1 with fail
  rw [← HZ.out]
  generalize (w.alloc (.cells #[.int .i64 c, .int .i64 n, .bool m] 97)) = w0 at *
  have S := B.cell
  go_wp2_with fail
  refine (headRight_any ⟨c, n, m⟩ HH.out w0).mono ?_
  rintro e w1 ⟨rfl, F1⟩
  replace B := B.fr F1 (fun h => h)
  replace S := B.cell
  have G1 := F0.trans F1
  clear F0 F1
  go_upto_region 4 with fail
  replace B := B.drew
  replace G1 := G1.drew
  replace S := B.cell
  go_region_held3 (fun w' => ∀ j, w'.cell? ⟨z, j, none⟩ = (#[.int .i64 c, .int .i64 n, .bool m] : Array Value)[j]?) (first | exact B.cell | exact (B.alloc _).cell) (first
    | (go_at_call 170; refine (first_any ⟨c, n, m⟩ HH.out _).mono ?_; rintro e w' ⟨rfl, F⟩; replace B := B.fr F (fun h => h); replace G1 := G1.trans F; simp only; rw [← HF.out]; clear F))
  have hx : bits BinOp.or IntKind.u8 f (IntKind.u8.wrap n) = ((tagByte ⟨c, n, m⟩).toNat : Int) := by
    rw [show IntKind.u8.wrap n = n from by simp [IntKind.wrap, IntKind.signed, IntKind.bits]; omega, HF.out]
    exact HO.out
  rw [hx]
  have BX := Blk.new w' 5 #[.int .u8 ((tagByte ⟨c, n, m⟩).toNat : Int)]
  have G2 := G1.alloc (.cells #[.int .u8 ((tagByte ⟨c, n, m⟩).toNat : Int)] 5)
  have ho := own_bytes (l := [tagByte ⟨c, n, m⟩]) BX (by simp) w.heap.size G1.size
  have HOW := Lib.hid ho
  have HG := Lib.hid G2
  clear G1 G2 BX ho B S hx
  go_wp2_with fail
  exact bodyPost_ret (v := .tuple #[.slice (some ⟨w'.heap.size, 0, none⟩) 1 1, .int .i64 0]) (by simp [results, Tryz.results132, go_sem]) rfl ⟨_, rfl, HOW.out, HG.out⟩
end Go.Proofs.YtacekpdjapgfcaaGreatDoor

namespace Go.Q
open Go
def lowS : Nat → Nat → List UInt8
  | 0, _ => []
  | f + 1, n => if n = 0 then [] else UInt8.ofNat (n % 256) :: lowS f (n / 256)
theorem low_len : ∀ (f n : Nat), (lowS f n).length ≤ f
  | 0, _ => Nat.le_refl _
  | f + 1, n => by
    simp only [lowS]
    split
    · simp
    · simp only [List.length_cons]
      have := low_len f (n / 256)
      omega
def limS : Nat → Nat
  | 0 => 16777216
  | 1 => 65536
  | 2 => 256
  | 3 => 1
  | _ => 0
theorem lim_step {m k : Nat} (h : m ≤ limS k) : m / 256 ≤ limS (k + 1) := by
  match k, h with
  | 0, h => simp only [limS] at h ⊢; omega
  | 1, h => simp only [limS] at h ⊢; omega
  | 2, h => simp only [limS] at h ⊢; omega
  | 3, h => simp only [limS] at h ⊢; omega
  | k + 4, h => simp only [limS] at h ⊢; omega
theorem len_low {n : Nat} (h1 : 128 ≤ n) (h2 : n ≤ 16777216) : lenBytes n = UInt8.ofNat (128 + (lowS 4 n).length) :: (lowS 4 n).reverse := by
  have c0 : ¬ n = 0 := by omega
  by_cases c2 : n < 256
  · have d1 : n / 256 = 0 := by omega
    have d2 : n % 256 = n := by omega
    simp only [lenBytes, lowS, c0, if_false, d1, d2, if_true, if_neg (show ¬ n < 128 by omega), if_pos c2]
    rfl
  by_cases c3 : n < 65536
  · have d0 : ¬ n / 256 = 0 := by omega
    have d1 : n / 256 / 256 = 0 := by omega
    have d2 : n / 256 % 256 = n / 256 := by omega
    simp only [lenBytes, lowS, c0, d0, if_false, d1, d2, if_true, if_neg (show ¬ n < 128 by omega), if_neg c2, if_pos c3]
    rfl
  by_cases c4 : n < 16777216
  · have d0 : ¬ n / 256 = 0 := by omega
    have d00 : ¬ n / 256 / 256 = 0 := by omega
    have d1 : n / 256 / 256 / 256 = 0 := by omega
    have d2 : n / 256 / 256 % 256 = n / 65536 := by omega
    simp only [lenBytes, lowS, c0, d0, d00, if_false, d1, d2, if_true, if_neg (show ¬ n < 128 by omega), if_neg c2, if_neg c3, if_pos c4]
    rfl
  · obtain rfl : n = 16777216 := by omega
    decide
end Go.Q
namespace Go.Proofs.YtacekpdjapgfcaaGreatDoor
open Go Go.RowKit Go.Q
set_option maxRecDepth 20000 in
set_option maxHeartbeats 1000000 in
theorem digits_any (n : Nat) (hn : n ≤ 16777216) (w : World)
    (hrev : ∀ (w1 : World) (base : Nat) (v : Value) (k : Nat) (xs : List UInt8), w1.ownsRow base 5 1 v k (Lib.byteCells xs) → k ≤ 100 → Calls Tryz.prog 221 #[v] w1 fun e w2 => e = .returned (.tuple #[]) ∧ w2.ownsRow base 5 1 v k (Lib.byteCells xs.reverse) ∧ Fr (fun k => v.ownBlock = some k) w1 w2) :
    Calls Tryz.prog 171 #[.int .i64 n, .int .i64 8] w fun e w' => ∃ v, e = .returned v ∧ w'.ownsRow w.heap.size 5 1 v (lowS 4 n).length (Lib.byteCells (lowS 4 n).reverse) ∧ Fr (fun _ => False) w w' := by
  obtain ⟨z, hz⟩ : ∃ z, z = w.heap.size := ⟨_, rfl⟩
  have BN := ((Blk.new w 3 #[.int .i64 n]).alloc (.cells #[.int .i64 8] 3)).alloc (.cells #[.slice none 0 0] 23)
  have BK := (Blk.new (w.alloc (.cells #[.int .i64 n] 3)) 3 #[.int .i64 8]).alloc (.cells #[.slice none 0 0] 23)
  have BB := Blk.new ((w.alloc (.cells #[.int .i64 n] 3)).alloc (.cells #[.int .i64 8] 3)) 23 #[.slice none 0 0]
  have F0 : Fr (fun _ => False) w (((w.alloc (.cells #[.int .i64 n] 3)).alloc (.cells #[.int .i64 8] 3)).alloc (.cells #[.slice none 0 0] 23)) := (((Fr.refl w).alloc _).alloc _).alloc _
  simp only [World.size_alloc] at BK BB
  rw [← hz] at BN BK BB
  have HZ := Lib.hid hz
  have HR := Lib.hid hrev
  have hll := low_len 4 n
  clear hz hrev
  go_enter Tryz.func171, Tryz.ntmps171
  go_upto_region 2 with fail
  rw [← HZ.out]
  generalize (((w.alloc (.cells #[.int .i64 n] 3)).alloc (.cells #[.int .i64 8] 3)).alloc (.cells #[.slice none 0 0] 23)) = w0 at *
  go_wp2_with fail
  go_loopg [] n (fun g wr => ∃ (k m : Nat) (v : Value) (xs : List UInt8), g = m ∧ m ≤ n ∧ xs.length = k ∧ k ≤ 4 ∧ lowS 4 n = xs ++ lowS (4 - k) m ∧ m ≤ limS k ∧ Blk wr z 3 #[.int .i64 m] ∧ Blk wr (z + 1) 3 #[.int .i64 8] ∧ Blk wr (z + 1 + 1) 23 #[v] ∧ wr.ownsRow z 5 1 v k (Lib.byteCells xs) ∧ (∀ b, v.ownBlock = some b → b ≠ z + 1 + 1 ∧ b ≠ z ∧ b ≠ z + 1) ∧ Fr (fun _ => False) w wr)
  case atStart => exact ⟨0, n, .slice none 0 0, [], rfl, Nat.le_refl _, rfl, by omega, rfl, hn, BN, BK, BB, ⟨rfl, .inl ⟨rfl, rfl⟩⟩, by simp [Value.ownBlock], F0⟩
  case round =>
    obtain ⟨k, m, v, xs, hg, hmn, hxk, hk, hlow, hk4, BN1, BK1, BB1, hown, hne, F1⟩ := hrel
    have HG := Lib.hid hg
    have HLO := Lib.hid hlow
    have e1 := BN1.cell 0
    have f1 := BN1.frozen 0
    have e2 := BK1.cell 0
    have e3 := BB1.cell 0
    simp at e1 e2 e3
    clear hg hlow
    by_cases hm0 : m = 0
    · subst hm0
      have hE : lowS 4 n = xs := by
        rw [HLO.out]
        cases 4 - k <;> simp [lowS]
      have HE := Lib.hid hE
      have hown' := hown
      go_wp2_with fail
      have hv := (Vals.of_own hown).2
      refine (HR.out wr z v k xs hown (by omega)).mono ?_
      rintro e w2 ⟨rfl, own2, F2⟩
      have e3' := F2.cell e3 (fun h => (hne _ h).1 rfl)
      have HO2 := Lib.hid own2
      have HG2 := Lib.hid (F1.trans' F2 (fun b hb h => absurd hb (by have := hv b h; have := HZ.out; omega)))
      obtain ⟨a7, c7, rfl, -⟩ := (Vals.of_own own2).1
      clear own2 F2 hv e3
      go_wp2_with fail
      go_ret
      refine ⟨_, rfl, ?_, HG2.out⟩
      have := HO2.out
      rw [← HZ.out, HE.out, hxk]
      exact this
    · have hm1 : (0 : Int) < (m : Int) := by omega
      have hk3 : k ≤ 3 := by
        rcases Nat.lt_or_ge 3 k with h | h
        · obtain rfl : k = 4 := by omega
          simp only [limS] at hk4
          omega
        · exact h
      have HK4 := Lib.hid hk4
      clear hk4
      have hv := (Vals.of_own hown).2
      have hz0 : z ≤ wr.heap.size := by have := HZ.out; have := F1.size; omega
      have HD := Lib.hid (digits1_any (z + 1 + 1) z (z + 1) m v xs BB1 BN1 BK1 hown hz0 hne (by omega) (by omega))
      go_wp2_with fail
      refine HD.out.mono ?_
      rintro e w2 ⟨rfl, v', BB2, own2, hne2, F2⟩
      have BN2 := BN1.fr F2 (fun h => by
        rcases h with h | h
        · omega
        · exact (hne z h).2.1 rfl)
      have BK2 := BK1.fr F2 (fun h => by
        rcases h with h | h
        · omega
        · exact (hne (z + 1) h).2.2 rfl)
      have G2 := F1.trans' F2 (fun b hb h => absurd hb (by
        have := HZ.out
        rcases h with h | h
        · omega
        · have := hv b h; omega))
      replace e1 := BN2.cell 0
      replace f1 := BN2.frozen 0
      replace e2 := BK2.cell 0
      simp at e1 e2
      have HO2 := Lib.hid own2
      clear e3 BB1 BN1 BK1 hown F1 F2 HD own2 hv
      go_wp2_with fail
      go_roundg (m / 256)
      case measure => rw [HG.out]; omega
      case rel =>
        have FS : Fr (fun k => k = z) w2 (w2.setCell ⟨z, 0, none⟩ (.int .i64 ((m : Int) / 256))) := Fr.setCell (S := fun k => k = z) (p := ⟨z, 0, none⟩) (Fr.refl w2) (fun _ => rfl) _
        refine ⟨k + 1, m / 256, v', xs ++ [UInt8.ofNat (m % 256)], rfl, by omega, by rw [List.length_append, hxk]; rfl, by omega, ?_, ?_, ?_, BK2.fr FS (by omega), BB2.fr FS (by omega), ownsRow_fr HO2.out FS (fun b hb e => (hne2 b hb).2.1 e), hne2, G2.trans' FS (fun b hb e => absurd hb (by have := HZ.out; omega))⟩
        · rw [HLO.out, List.append_assoc]
          congr 1
          rw [show 4 - k = (4 - (k + 1)) + 1 from by omega]
          simp only [lowS, if_neg hm0]
          rfl
        · exact lim_step HK4.out
        · have := BN2.set 0 (.int .i64 ((m : Int) / 256))
          simpa using this
end Go.Proofs.YtacekpdjapgfcaaGreatDoor

namespace Go.Proofs.YtacekpdjapgfcaaGreatDoor
open Go Go.RowKit Go.Q
def RevOk : Prop := ∀ (w1 : World) (base : Nat) (v : Value) (k : Nat) (xs : List UInt8), w1.ownsRow base 5 1 v k (Lib.byteCells xs) → k ≤ 100 → Calls Tryz.prog 221 #[v] w1 fun e w2 => e = .returned (.tuple #[]) ∧ w2.ownsRow base 5 1 v k (Lib.byteCells xs.reverse) ∧ Fr (fun k => v.ownBlock = some k) w1 w2
set_option maxRecDepth 20000 in
set_option maxHeartbeats 1000000 in
theorem length_any (n : Nat) (hn : n ≤ 16777216) (w : World) (hrev : RevOk) :
    Calls Tryz.prog 133 #[.int .i64 n] w fun e w' => ∃ v, e = .returned (.tuple #[v, .int .i64 0]) ∧ w'.ownsRow w.heap.size 5 1 v (lenBytes n).length (Lib.byteCells (lenBytes n)) ∧ Fr (fun _ => False) w w' := by
  have q1 : ¬ (n : Int) < 0 := by omega
  have q2 : ¬ (16777216 : Int) < (n : Int) := by omega
  by_cases h1 : n < 128
  · have q3 : (n : Int) < 128 := by omega
    have hw8 : IntKind.u8.wrap (n : Int) = (n : Int) := by simp [IntKind.wrap, IntKind.signed, IntKind.bits]; omega
    have hL : lenBytes n = [UInt8.ofNat n] := by simp only [lenBytes, if_pos h1]
    have e := u8' n (by omega)
    have BX := Blk.new w 5 #[.int .u8 ((UInt8.ofNat n).toNat : Int)]
    have G : Fr (fun _ => False) w (w.alloc (.cells #[.int .u8 ((UInt8.ofNat n).toNat : Int)] 5)) := (Fr.refl w).alloc _
    have ho := own_bytes (l := [UInt8.ofNat n]) BX (by simp) w.heap.size (Nat.le_refl _)
    rw [e] at ho G
    rw [hL]
    have HO := Lib.hid ho
    have HG := Lib.hid G
    clear BX ho G hL e
    go_enter Tryz.func133, Tryz.ntmps133
    go_wp2_with fail
    exact bodyPost_ret (v := .tuple #[.slice (some ⟨w.heap.size, 0, none⟩) 1 1, .int .i64 0]) (by simp [results, Tryz.results133, go_sem]) rfl ⟨_, rfl, HO.out, HG.out⟩
  · have q3 : ¬ (n : Int) < 128 := by omega
    have hL := len_low (by omega) hn
    have hlk := low_len 4 n
    obtain ⟨d, hd⟩ : ∃ d, d = (lowS 4 n).reverse := ⟨_, rfl⟩
    obtain ⟨k, hk⟩ : ∃ k, k = (lowS 4 n).length := ⟨_, rfl⟩
    have hdk : d.length = k := by rw [hd, hk, List.length_reverse]
    rw [← hd, ← hk] at hL
    rw [← hk] at hlk
    have hD := digits_any n hn w hrev
    rw [← hd, ← hk] at hD
    have HD := Lib.hid hD
    rw [hL]
    have HDK := Lib.hid hdk
    clear hL hd hk hD hdk
    go_enter Tryz.func133, Tryz.ntmps133
    go_wp2_with fail
    refine HD.out.mono ?_
    rintro e w1 ⟨v, rfl, ho, F1⟩
    obtain ⟨x, hx⟩ : ∃ x : UInt8, x = UInt8.ofNat (128 + k) := ⟨_, rfl⟩
    have hxn : (x.toNat : Int) = 128 + (k : Int) := by rw [hx, u8' _ (by omega)]; omega
    have HX := Lib.hid hx
    have hv := (Vals.of_own ho).1
    have BX := Blk.new w1 5 #[.int .u8 (x.toNat : Int)]
    have G : Fr (fun _ => False) w1 (w1.alloc (.cells #[.int .u8 (x.toNat : Int)] 5)) := (Fr.refl w1).alloc _
    have ho2 := own_bytes (l := [x]) BX (by simp) w.heap.size F1.size
    obtain ⟨a, cap, rfl, -⟩ := hv.form
    obtain ⟨v', w', hr, hown', hF, hat⟩ := append_bytes ho2 a d.length cap d (hv.old G) (by have := HDK.out; simp; omega) (Nat.le_trans F1.size G.size)
    have HO' := Lib.hid hown'
    have HG := Lib.hid (F1.trans (G.trans' hF (fun i hi e => by simp [Value.ownBlock] at e; omega)))
    have hlen : d.length = k := HDK.out
    rw [hlen] at hr ⊢
    rw [hxn] at hr
    have HXN := Lib.hid hxn
    obtain ⟨a7, c7, rfl, -⟩ := (Vals.of_own hown').1
    clear ho hv BX G ho2 hown' hF hat F1 hxn
    generalize (Lib.byteCells ([x] ++ d)).length = L7 at *
    go_wp2_with (at_builtin; refine wpList_append_run (by rfl) (.tmp 23) (.tmp 24) 23 (by rfl) _ w' (by exact hr) ?_)
    refine bodyPost_ret (v := .tuple #[.slice a7 L7 c7, .int .i64 0]) (by simp [results, Tryz.results133, go_sem]) rfl ⟨_, rfl, ?_, HG.out⟩
    have := HO'.out
    rw [← HX.out, show d.length + 1 = [x].length + d.length from by simp; omega]
    exact this
end Go.Proofs.YtacekpdjapgfcaaGreatDoor

namespace Go.Proofs
open Go.Shelf
def Tryz.lays169_ren : Go.Shelf.Ren := ⟨fun | 169 => 209 | n => n, fun | 70 => 274 | 9 => 9 | 0 => 0 | 72 => 276 | 37 => 23 | 127 => 318 | 3 => 3 | 5 => 5 | n => n, fun | n => n⟩
theorem Tryz.lays169 : Go.Proofs.Lays.n169 Tryz.prog Tryz.lays169_ren := {
  mixed := by kernel_rfl
  f169 := Tryz.func209.trans (congrArg some (by kernel_rfl))
  t0 := Tryz.underlying0
  a0 := Tryz.isAgg0
  z0 := Tryz.sizeOf0
  v0 := Tryz.zeroValue0
  t3 := Tryz.underlying3
  a3 := Tryz.isAgg3
  z3 := Tryz.sizeOf3
  v3 := Tryz.zeroValue3
  t9 := Tryz.underlying9
  a9 := Tryz.isAgg9
  z9 := Tryz.sizeOf9
  v9 := Tryz.zeroValue9
  t37 := Tryz.underlying23
  a37 := Tryz.isAgg23
  z37 := Tryz.sizeOf23
  v37 := Tryz.zeroValue23
  t70 := Tryz.underlying274
  a70 := Tryz.isAgg274
  z70 := Tryz.sizeOf274
  v70 := Tryz.zeroValue274
  t72 := Tryz.underlying276
  a72 := Tryz.isAgg276
  z72 := Tryz.sizeOf276
  v72 := Tryz.zeroValue276
  t127 := Tryz.underlying318
  a127 := Tryz.isAgg318
  z127 := Tryz.sizeOf318
  v127 := Tryz.zeroValue318 }
theorem Tryz.Builder_Extra_169 : Builder.Extra Tryz.prog Tryz.lays169_ren := {
  sizeBuilder := by kernel_rfl
  liesBuilder := by kernel_rfl
  t5 := Tryz.underlying5
  a5 := Tryz.isAgg5
  z5 := Tryz.sizeOf5
  v5 := Tryz.zeroValue5
  infoByte := by kernel_rfl
  cellsByte := by kernel_rfl
  sizeByte := by kernel_rfl
  neB5 := by decide }
open Go.RowKit in
open Go.RowKit in
open Go.RowKit in
theorem Tryz.Builder_String_any (B b : Nat) (l : List UInt8) (w : World) (h : Lib.IsBuilder 276 5 B b (Lib.byteCells l) w) (hBw : B ≤ w.heap.size) :
    Calls Tryz.prog 209 #[.pointer (some ⟨b, 0, none⟩)] w fun e w' => e = .returned (.string ⟨l.toArray⟩) ∧ Below B w w' := Any.Builder_String_any Tryz.lays169 Tryz.Builder_Extra_169 B b l w h hBw
def Tryz.lays241_ren : Go.Shelf.Ren := ⟨fun | 241 => 256 | 277 => 300 | n => n, fun | 70 => 274 | 3 => 3 | 0 => 0 | 72 => 276 | 37 => 23 | 5 => 5 | n => n, fun | n => n⟩
open Go.RowKit in
def Tryz.lays165_ren : Go.Shelf.Ren := ⟨fun | 165 => 207 | 240 => 255 | 241 => 256 | 276 => 299 | 277 => 300 | n => n, fun | 70 => 274 | 3 => 3 | 0 => 0 | 4 => 4 | 9 => 9 | 20 => 20 | 72 => 276 | 37 => 23 | 164 => 338 | 5 => 5 | n => n, fun | n => n⟩
open Go.RowKit in
def Tryz.lays156_ren : Go.Shelf.Ren := ⟨fun | 156 => 161 | 165 => 207 | 166 => 208 | 169 => 209 | 240 => 255 | 241 => 256 | 276 => 299 | 277 => 300 | n => n, fun | 31 => 68 | 9 => 9 | 3 => 3 | 4 => 4 | 0 => 0 | 20 => 20 | 72 => 276 | 76 => 280 | 70 => 274 | 37 => 23 | 75 => 279 | 127 => 318 | 164 => 338 | 5 => 5 | 80 => 223 | n => n, fun | n => n⟩
theorem Tryz.lays156 : Go.Proofs.Lays.n156 Tryz.prog Tryz.lays156_ren := {
  mixed := by kernel_rfl
  f156 := Tryz.func161.trans (congrArg some (by kernel_rfl))
  f165 := Tryz.func207.trans (congrArg some (by kernel_rfl))
  f166 := Tryz.func208.trans (congrArg some (by kernel_rfl))
  f169 := Tryz.func209.trans (congrArg some (by kernel_rfl))
  f240 := Tryz.func255.trans (congrArg some (by kernel_rfl))
  f241 := Tryz.func256.trans (congrArg some (by kernel_rfl))
  f276 := Tryz.func299.trans (congrArg some (by kernel_rfl))
  f277 := Tryz.func300.trans (congrArg some (by kernel_rfl))
  t0 := Tryz.underlying0
  a0 := Tryz.isAgg0
  z0 := Tryz.sizeOf0
  v0 := Tryz.zeroValue0
  t3 := Tryz.underlying3
  a3 := Tryz.isAgg3
  z3 := Tryz.sizeOf3
  v3 := Tryz.zeroValue3
  t4 := Tryz.underlying4
  a4 := Tryz.isAgg4
  z4 := Tryz.sizeOf4
  v4 := Tryz.zeroValue4
  t9 := Tryz.underlying9
  a9 := Tryz.isAgg9
  z9 := Tryz.sizeOf9
  v9 := Tryz.zeroValue9
  t20 := Tryz.underlying20
  a20 := Tryz.isAgg20
  z20 := Tryz.sizeOf20
  v20 := Tryz.zeroValue20
  t31 := Tryz.underlying68
  a31 := Tryz.isAgg68
  z31 := Tryz.sizeOf68
  v31 := Tryz.zeroValue68
  t37 := Tryz.underlying23
  a37 := Tryz.isAgg23
  z37 := Tryz.sizeOf23
  v37 := Tryz.zeroValue23
  t70 := Tryz.underlying274
  a70 := Tryz.isAgg274
  z70 := Tryz.sizeOf274
  v70 := Tryz.zeroValue274
  t72 := Tryz.underlying276
  a72 := Tryz.isAgg276
  z72 := Tryz.sizeOf276
  v72 := Tryz.zeroValue276
  t75 := Tryz.underlying279
  a75 := Tryz.isAgg279
  z75 := Tryz.sizeOf279
  v75 := Tryz.zeroValue279
  t76 := Tryz.underlying280
  a76 := Tryz.isAgg280
  z76 := Tryz.sizeOf280
  v76 := Tryz.zeroValue280
  t127 := Tryz.underlying318
  a127 := Tryz.isAgg318
  z127 := Tryz.sizeOf318
  v127 := Tryz.zeroValue318
  t164 := Tryz.underlying338
  a164 := Tryz.isAgg338
  z164 := Tryz.sizeOf338
  v164 := Tryz.zeroValue338 }
theorem Tryz.Builder_Extra_156 : Builder.Extra Tryz.prog Tryz.lays156_ren := {
  sizeBuilder := by kernel_rfl
  liesBuilder := by kernel_rfl
  t5 := Tryz.underlying5
  a5 := Tryz.isAgg5
  z5 := Tryz.sizeOf5
  v5 := Tryz.zeroValue5
  infoByte := by kernel_rfl
  cellsByte := by kernel_rfl
  sizeByte := by kernel_rfl
  neB5 := by decide }
open Go.RowKit in
theorem Tryz.strings_Join_none (a : Option Addr) (c : Nat) (sep : ByteArray) (w : World) :
    Calls Tryz.prog 161 #[.slice a 0 c, .string sep] w fun e w' => e = .returned (.string ⟨#[]⟩) ∧ w' = w := Any.strings_Join_none Tryz.lays156 Tryz.Builder_Extra_156 a c sep w
open Go.RowKit in
theorem Tryz.strings_Join (bk o c : Nat) (xs : List ByteArray) (sep : ByteArray) (w : World) (hcells : ∀ (j : Nat) x, xs[j]? = some x → w.cell? ⟨bk, o + j, none⟩ = some (.string x)) (hbk : bk < w.heap.size) (hN : xs.length ≤ 140737488355328) (hcap : xs.length ≤ c) (hlen : (Lib.join (xs.map (·.data.toList)) sep.data.toList).length ≤ 140737488355328) :
    Calls Tryz.prog 161 #[.slice (some ⟨bk, o, none⟩) xs.length c, .string sep] w fun e w' => e = .returned (.string ⟨(Lib.join (xs.map (·.data.toList)) sep.data.toList).toArray⟩) ∧ Below w.heap.size w w' := Any.strings_Join Tryz.lays156 Tryz.Builder_Extra_156 bk o c xs sep w hcells hbk hN hcap hlen
def Tryz.lays137_ren : Go.Shelf.Ren := ⟨fun | 137 => 285 | 217 => 277 | 266 => 309 | n => n, fun | 9 => 9 | 5 => 5 | 3 => 3 | n => n, fun | n => n⟩
theorem Tryz.lays137 : Go.Proofs.Lays.n137 Tryz.prog Tryz.lays137_ren := {
  mixed := by kernel_rfl
  f137 := Tryz.func285.trans (congrArg some (by kernel_rfl))
  f217 := Tryz.func277.trans (congrArg some (by kernel_rfl))
  f266 := Tryz.func309.trans (congrArg some (by kernel_rfl))
  t3 := Tryz.underlying3
  a3 := Tryz.isAgg3
  z3 := Tryz.sizeOf3
  v3 := Tryz.zeroValue3
  t5 := Tryz.underlying5
  a5 := Tryz.isAgg5
  z5 := Tryz.sizeOf5
  v5 := Tryz.zeroValue5
  t9 := Tryz.underlying9
  a9 := Tryz.isAgg9
  z9 := Tryz.sizeOf9
  v9 := Tryz.zeroValue9 }
open Go.RowKit in
theorem Tryz.strings_IndexByte (s : ByteArray) (c : Int) (w : World) :
    Calls Tryz.prog 285 #[.string s, .int .u8 c] w fun e w' => e = .returned (.int .i64 (Lib.indexByte s.data.toList c.toNat.toUInt8)) ∧ w' = w := Any.strings_IndexByte Tryz.lays137 s c w
def Tryz.lays215_ren : Go.Shelf.Ren := ⟨fun | 215 => 243 | n => n, fun | 3 => 3 | 4 => 4 | n => n, fun | n => n⟩
open Go.RowKit in
def Tryz.lays122_ren : Go.Shelf.Ren := ⟨fun | 122 => 196 | 215 => 243 | n => n, fun | 3 => 3 | 4 => 4 | n => n, fun | n => n⟩
open Go.RowKit in
open Go.RowKit in
open Go.RowKit in
open Go.RowKit in
open Go.RowKit in
open Go.RowKit in
open Go.RowKit in
def Tryz.lays278_ren : Go.Shelf.Ren := ⟨fun | 278 => 286 | n => n, fun | 37 => 23 | 21 => 21 | 51 => 321 | 4 => 4 | 46 => 243 | 5 => 5 | n => n, fun | n => n⟩
open Go.RowKit in
def Tryz.lays242_ren : Go.Shelf.Ren := ⟨fun | 242 => 250 | 278 => 286 | n => n, fun | 37 => 23 | 21 => 21 | 51 => 321 | 4 => 4 | 5 => 5 | 46 => 243 | n => n, fun | n => n⟩
theorem Tryz.lays242 : Go.Proofs.Lays.n242 Tryz.prog Tryz.lays242_ren := {
  mixed := by kernel_rfl
  f242 := Tryz.func250.trans (congrArg some (by kernel_rfl))
  f278 := Tryz.func286.trans (congrArg some (by kernel_rfl))
  t4 := Tryz.underlying4
  a4 := Tryz.isAgg4
  z4 := Tryz.sizeOf4
  v4 := Tryz.zeroValue4
  t5 := Tryz.underlying5
  a5 := Tryz.isAgg5
  z5 := Tryz.sizeOf5
  v5 := Tryz.zeroValue5
  t21 := Tryz.underlying21
  a21 := Tryz.isAgg21
  z21 := Tryz.sizeOf21
  v21 := Tryz.zeroValue21
  t37 := Tryz.underlying23
  a37 := Tryz.isAgg23
  z37 := Tryz.sizeOf23
  v37 := Tryz.zeroValue23
  t46 := Tryz.underlying243
  a46 := Tryz.isAgg243
  z46 := Tryz.sizeOf243
  v46 := Tryz.zeroValue243
  t51 := Tryz.underlying321
  a51 := Tryz.isAgg321
  z51 := Tryz.sizeOf321
  v51 := Tryz.zeroValue321 }
open Go.RowKit in
open Go.RowKit in
open Go.RowKit in
theorem Tryz.utf8_AppendRune_plain (B : Nat) (v : Value) (n : Nat) (xs : List Value) (r : Int) (hr0 : -2147483648 ≤ r) (hr1 : r ≤ 2147483647) (w : World) (hown : w.ownsRow B 5 1 v n xs) (hlen : n + 4 ≤ 140737488355328) (hBw : B ≤ w.heap.size) :
    Calls Tryz.prog 250 #[v, .int .i32 r] w fun e w' => ∃ v', e = .returned v' ∧ w'.ownsRow B 5 1 v' (n + (Lib.runeCells r).length) (xs ++ Lib.runeCells r) ∧ ∃ o, (w.alloc o).grownBy w' v.ownBlock := Any.utf8_AppendRune_plain Tryz.lays242 (by kernel_rfl) B v n xs r hr0 hr1 w hown hlen hBw
def Tryz.lays195_ren : Go.Shelf.Ren := ⟨fun | 195 => 304 | n => n, fun | 9 => 9 | 3 => 3 | 0 => 0 | 4 => 4 | n => n, fun | n => n⟩
open Go.RowKit in
def Tryz.lays129_ren : Go.Shelf.Ren := ⟨fun | 129 => 260 | n => n, fun | 53 => 37 | 3 => 3 | 4 => 4 | 46 => 243 | 5 => 5 | 9 => 9 | n => n, fun | n => n⟩
def Tryz.lays317_ren : Go.Shelf.Ren := ⟨fun | 317 => 259 | n => n, fun | 3 => 3 | 46 => 243 | n => n, fun | n => n⟩
open Go.Lib in
def Tryz.lays318_ren : Go.Shelf.Ren := ⟨fun | 318 => 261 | n => n, fun | 3 => 3 | 4 => 4 | n => n, fun | n => n⟩
open Go.Lib in
def Tryz.lays283_ren : Go.Shelf.Ren := ⟨fun | 283 => 222 | n => n, fun | 3 => 3 | 9 => 9 | 4 => 4 | n => n, fun | n => n⟩
open Go.Lib in
def Tryz.laysM284_ren : Go.Shelf.Ren := ⟨fun | 284 => 223 | 129 => 260 | 317 => 259 | 318 => 261 | n => n, fun | 53 => 37 | 3 => 3 | 212 => 320 | 0 => 0 | 4 => 4 | 46 => 243 | 5 => 5 | 9 => 9 | n => n, fun | 17 => 0 | n => n⟩
open Go.Lib in
def Tryz.lays285_ren : Go.Shelf.Ren := ⟨fun | 285 => 224 | n => n, fun | 37 => 23 | 53 => 37 | 3 => 3 | 4 => 4 | 51 => 321 | 9 => 9 | 5 => 5 | 0 => 0 | n => n, fun | n => n⟩
open Go.RowKit Go.Sort Go.Lib in
def Tryz.laysM246_ren : Go.Shelf.Ren := ⟨fun | 246 => 172 | 283 => 222 | 284 => 223 | 285 => 224 | 286 => 225 | 129 => 260 | 317 => 259 | 318 => 261 | 319 => 262 | 320 => 263 | 337 => 302 | 338 => 303 | n => n, fun | 2 => 2 | 3 => 3 | 9 => 9 | 4 => 4 | 171 => 292 | 0 => 0 | 53 => 37 | 37 => 23 | 5 => 5 | 173 => 295 | 212 => 320 | 51 => 321 | 20 => 20 | 213 => 322 | 46 => 243 | 232 => 351 | 233 => 352 | n => n, fun | 17 => 0 | 18 => 2 | 19 => 3 | n => n⟩
open Go.RowKit Go.Sort Go.Lib in
def Tryz.lays246_ren : Go.Shelf.Ren := ⟨fun | 246 => 172 | 283 => 222 | 284 => 223 | 285 => 224 | 286 => 225 | 129 => 260 | 317 => 259 | 318 => 261 | 319 => 262 | 320 => 263 | 337 => 302 | 338 => 303 | n => n, fun | 2 => 2 | 3 => 3 | 9 => 9 | 4 => 4 | 171 => 292 | 0 => 0 | 53 => 37 | 37 => 23 | 5 => 5 | 173 => 295 | 212 => 320 | 51 => 321 | 20 => 20 | 213 => 322 | 46 => 243 | 232 => 351 | 233 => 352 | n => n, fun | 17 => 0 | 18 => 2 | 19 => 3 | n => n⟩
open Go.RowKit Go.Sort Go.Lib in
def Tryz.laysM243_ren : Go.Shelf.Ren := ⟨fun | 243 => 135 | 246 => 172 | 283 => 222 | 284 => 223 | 285 => 224 | 286 => 225 | 129 => 260 | 317 => 259 | 318 => 261 | 319 => 262 | 320 => 263 | 337 => 302 | 338 => 303 | n => n, fun | 3 => 3 | 9 => 9 | 2 => 2 | 4 => 4 | 171 => 292 | 0 => 0 | 53 => 37 | 37 => 23 | 5 => 5 | 173 => 295 | 212 => 320 | 51 => 321 | 20 => 20 | 213 => 322 | 46 => 243 | 232 => 351 | 233 => 352 | n => n, fun | 17 => 0 | 18 => 2 | 19 => 3 | n => n⟩
open Go.RowKit Go.Sort Go.Lib in
def Tryz.lays243_ren : Go.Shelf.Ren := ⟨fun | 243 => 135 | 246 => 172 | 283 => 222 | 284 => 223 | 285 => 224 | 286 => 225 | 129 => 260 | 317 => 259 | 318 => 261 | 319 => 262 | 320 => 263 | 337 => 302 | 338 => 303 | n => n, fun | 3 => 3 | 9 => 9 | 2 => 2 | 4 => 4 | 171 => 292 | 0 => 0 | 53 => 37 | 37 => 23 | 5 => 5 | 173 => 295 | 212 => 320 | 51 => 321 | 20 => 20 | 213 => 322 | 46 => 243 | 232 => 351 | 233 => 352 | n => n, fun | 17 => 0 | 18 => 2 | 19 => 3 | n => n⟩
open Go.RowKit Go.Sort Go.Lib in
def Tryz.laysM171_ren : Go.Shelf.Ren := ⟨fun | 171 => 91 | 243 => 135 | 246 => 172 | 283 => 222 | 284 => 223 | 285 => 224 | 286 => 225 | 129 => 260 | 317 => 259 | 318 => 261 | 319 => 262 | 320 => 263 | 337 => 302 | 338 => 303 | n => n, fun | 3 => 3 | 9 => 9 | 2 => 2 | 4 => 4 | 171 => 292 | 0 => 0 | 53 => 37 | 37 => 23 | 5 => 5 | 173 => 295 | 212 => 320 | 51 => 321 | 20 => 20 | 213 => 322 | 46 => 243 | 232 => 351 | 233 => 352 | n => n, fun | 17 => 0 | 18 => 2 | 19 => 3 | n => n⟩
theorem Tryz.laysM171 : Go.Proofs.LaysM.n171 Tryz.prog Tryz.laysM171_ren := {
  mixed := by kernel_rfl
  f129 := Tryz.func260.trans (congrArg some (by kernel_rfl))
  f171 := Tryz.func91.trans (congrArg some (by kernel_rfl))
  f243 := Tryz.func135.trans (congrArg some (by kernel_rfl))
  f246 := Tryz.func172.trans (congrArg some (by kernel_rfl))
  f283 := Tryz.func222.trans (congrArg some (by kernel_rfl))
  f284 := Tryz.func223.trans (congrArg some (by kernel_rfl))
  f285 := Tryz.func224.trans (congrArg some (by kernel_rfl))
  f286 := Tryz.func225.trans (congrArg some (by kernel_rfl))
  f317 := Tryz.func259.trans (congrArg some (by kernel_rfl))
  f318 := Tryz.func261.trans (congrArg some (by kernel_rfl))
  f319 := Tryz.func262.trans (congrArg some (by kernel_rfl))
  f320 := Tryz.func263.trans (congrArg some (by kernel_rfl))
  f337 := Tryz.func302.trans (congrArg some (by kernel_rfl))
  f338 := Tryz.func303.trans (congrArg some (by kernel_rfl))
  t0 := Tryz.underlying0
  a0 := Tryz.isAgg0
  z0 := Tryz.sizeOf0
  v0 := Tryz.zeroValue0
  t2 := Tryz.underlying2
  a2 := Tryz.isAgg2
  z2 := Tryz.sizeOf2
  v2 := Tryz.zeroValue2
  t3 := Tryz.underlying3
  a3 := Tryz.isAgg3
  z3 := Tryz.sizeOf3
  v3 := Tryz.zeroValue3
  t4 := Tryz.underlying4
  a4 := Tryz.isAgg4
  z4 := Tryz.sizeOf4
  v4 := Tryz.zeroValue4
  t5 := Tryz.underlying5
  a5 := Tryz.isAgg5
  z5 := Tryz.sizeOf5
  v5 := Tryz.zeroValue5
  t9 := Tryz.underlying9
  a9 := Tryz.isAgg9
  z9 := Tryz.sizeOf9
  v9 := Tryz.zeroValue9
  t20 := Tryz.underlying20
  a20 := Tryz.isAgg20
  z20 := Tryz.sizeOf20
  v20 := Tryz.zeroValue20
  t37 := Tryz.underlying23
  a37 := Tryz.isAgg23
  z37 := Tryz.sizeOf23
  v37 := Tryz.zeroValue23
  t46 := Tryz.underlying243
  a46 := Tryz.isAgg243
  z46 := Tryz.sizeOf243
  v46 := Tryz.zeroValue243
  t51 := Tryz.underlying321
  a51 := Tryz.isAgg321
  z51 := Tryz.sizeOf321
  v51 := Tryz.zeroValue321
  t53 := Tryz.underlying37
  a53 := Tryz.isAgg37
  z53 := Tryz.sizeOf37
  v53 := Tryz.zeroValue37
  t171 := Tryz.underlying292
  a171 := Tryz.isAgg292
  z171 := Tryz.sizeOf292
  v171 := Tryz.zeroValue292
  t173 := Tryz.underlying295
  a173 := Tryz.isAgg295
  z173 := Tryz.sizeOf295
  v173 := Tryz.zeroValue295
  t212 := Tryz.underlying320
  a212 := Tryz.isAgg320
  z212 := Tryz.sizeOf320
  v212 := Tryz.zeroValue320
  t213 := Tryz.underlying322
  a213 := Tryz.isAgg322
  z213 := Tryz.sizeOf322
  t232 := Tryz.underlying351
  a232 := Tryz.isAgg351
  z232 := Tryz.sizeOf351
  v232 := Tryz.zeroValue351
  t233 := Tryz.underlying352
  a233 := Tryz.isAgg352
  z233 := Tryz.sizeOf352
  v233 := Tryz.zeroValue352
  g17 := by kernel_rfl
  g18 := by kernel_rfl
  g19 := by kernel_rfl
  i0 := by kernel_rfl
  i2 := by kernel_rfl
  i3 := by kernel_rfl
  i4 := by kernel_rfl
  i5 := by kernel_rfl
  i9 := by kernel_rfl
  i20 := by kernel_rfl
  i37 := by kernel_rfl
  i46 := by kernel_rfl
  i51 := by kernel_rfl
  i53 := by kernel_rfl
  i171 := by kernel_rfl
  i173 := by kernel_rfl
  i212 := by kernel_rfl
  i232 := by kernel_rfl
  i233 := by kernel_rfl
  m17 := by kernel_rfl
  m18 := by kernel_rfl
  m19 := by kernel_rfl }
open Go.RowKit Go.Sort Go.Lib in
theorem Tryz.strconv_Itoa (n : Int) (h0 : -9223372036854775808 ≤ n) (h1 : n ≤ 9223372036854775807) (w : World) (htab : Lib.TabIs Tryz.prog w "internal/strconv.uint64pow10" .u64 Lib.pow10Tab) :
    Calls Tryz.prog 91 #[.int .i64 n] w fun e w' => e = .returned (.string ⟨(Lib.itoa n).toArray⟩) ∧ ∃ k os, w' = grow (w.drewN k) os := Any.strconv_Itoa Tryz.laysM171 n h0 h1 w htab
def Tryz.lays171_ren : Go.Shelf.Ren := ⟨fun | 171 => 91 | 243 => 135 | 246 => 172 | 283 => 222 | 284 => 223 | 285 => 224 | 286 => 225 | 129 => 260 | 317 => 259 | 318 => 261 | 319 => 262 | 320 => 263 | 337 => 302 | 338 => 303 | n => n, fun | 3 => 3 | 9 => 9 | 2 => 2 | 4 => 4 | 171 => 292 | 0 => 0 | 53 => 37 | 37 => 23 | 5 => 5 | 173 => 295 | 212 => 320 | 51 => 321 | 20 => 20 | 213 => 322 | 46 => 243 | 232 => 351 | 233 => 352 | n => n, fun | 17 => 0 | 18 => 2 | 19 => 3 | n => n⟩
open Go.RowKit Go.Sort Go.Lib in
def Tryz.lays217_ren : Go.Shelf.Ren := ⟨fun | 217 => 277 | 266 => 309 | n => n, fun | 9 => 9 | 5 => 5 | 3 => 3 | n => n, fun | n => n⟩
open Go.RowKit Go.Lib in
def Tryz.lays224_ren : Go.Shelf.Ren := ⟨fun | 224 => 279 | n => n, fun | 3 => 3 | n => n, fun | n => n⟩
open Go.RowKit Go.Lib in
def Tryz.lays314_ren : Go.Shelf.Ren := ⟨fun | 314 => 310 | n => n, fun | 9 => 9 | 51 => 321 | 3 => 3 | 4 => 4 | 5 => 5 | 46 => 243 | n => n, fun | n => n⟩
open Go.RowKit Go.Lib in
def Tryz.lays267_ren : Go.Shelf.Ren := ⟨fun | 267 => 280 | 314 => 310 | n => n, fun | 9 => 9 | 3 => 3 | 146 => 343 | 51 => 321 | 4 => 4 | 5 => 5 | 46 => 243 | n => n, fun | n => n⟩
open Go.RowKit Go.Lib in
def Tryz.lays219_ren : Go.Shelf.Ren := ⟨fun | 219 => 242 | 217 => 277 | 225 => 278 | 224 => 279 | 267 => 280 | 266 => 309 | 314 => 310 | n => n, fun | 9 => 9 | 3 => 3 | 4 => 4 | 5 => 5 | 46 => 243 | 146 => 343 | 51 => 321 | n => n, fun | 1 => 1 | n => n⟩
open Go.RowKit Go.Lib in
open Go.RowKit Go.Lib in
def Tryz.lays143_ren : Go.Shelf.Ren := ⟨fun | 143 => 267 | 219 => 242 | 217 => 277 | 225 => 278 | 224 => 279 | 267 => 280 | 266 => 309 | 314 => 310 | n => n, fun | 9 => 9 | 3 => 3 | 4 => 4 | 5 => 5 | 46 => 243 | 146 => 343 | 51 => 321 | n => n, fun | 1 => 1 | n => n⟩
open Go.RowKit Go.Lib in
open Go.RowKit Go.Lib in
def Tryz.lays220_ren : Go.Shelf.Ren := ⟨fun | 220 => 192 | 219 => 242 | 217 => 277 | 225 => 278 | 224 => 279 | 267 => 280 | 266 => 309 | 314 => 310 | n => n, fun | 9 => 9 | 4 => 4 | 3 => 3 | 5 => 5 | 46 => 243 | 146 => 343 | 51 => 321 | n => n, fun | 1 => 1 | n => n⟩
open Go.RowKit Go.Lib in
def Tryz.lays145_ren : Go.Shelf.Ren := ⟨fun | 145 => 151 | 220 => 192 | 219 => 242 | 217 => 277 | 225 => 278 | 224 => 279 | 267 => 280 | 266 => 309 | 314 => 310 | n => n, fun | 9 => 9 | 4 => 4 | 59 => 213 | 3 => 3 | 5 => 5 | 46 => 243 | 146 => 343 | 51 => 321 | n => n, fun | 1 => 1 | n => n⟩
open Go.RowKit Go.Lib in
def Tryz.lays138_ren : Go.Shelf.Ren := ⟨fun | 138 => 266 | 195 => 304 | 218 => 306 | 143 => 267 | 219 => 242 | 217 => 277 | 225 => 278 | 224 => 279 | 267 => 280 | 266 => 309 | 314 => 310 | n => n, fun | 9 => 9 | 3 => 3 | 4 => 4 | 5 => 5 | 0 => 0 | 46 => 243 | 146 => 343 | 51 => 321 | n => n, fun | 1 => 1 | n => n⟩
open Go.RowKit Go.Lib in
open Go.RowKit Go.Lib in
def Tryz.laysM219_ren : Go.Shelf.Ren := ⟨fun | 219 => 242 | 217 => 277 | 225 => 278 | 224 => 279 | 267 => 280 | 266 => 309 | 314 => 310 | n => n, fun | 9 => 9 | 3 => 3 | 4 => 4 | 5 => 5 | 46 => 243 | 146 => 343 | 51 => 321 | n => n, fun | 1 => 1 | n => n⟩
open Go.RowKit Go.Lib in
def Tryz.laysM143_ren : Go.Shelf.Ren := ⟨fun | 143 => 267 | 219 => 242 | 217 => 277 | 225 => 278 | 224 => 279 | 267 => 280 | 266 => 309 | 314 => 310 | n => n, fun | 9 => 9 | 3 => 3 | 4 => 4 | 5 => 5 | 46 => 243 | 146 => 343 | 51 => 321 | n => n, fun | 1 => 1 | n => n⟩
open Go.RowKit Go.Lib in
def Tryz.laysM220_ren : Go.Shelf.Ren := ⟨fun | 220 => 192 | 219 => 242 | 217 => 277 | 225 => 278 | 224 => 279 | 267 => 280 | 266 => 309 | 314 => 310 | n => n, fun | 9 => 9 | 4 => 4 | 3 => 3 | 5 => 5 | 46 => 243 | 146 => 343 | 51 => 321 | n => n, fun | 1 => 1 | n => n⟩
open Go.RowKit Go.Lib in
def Tryz.laysM145_ren : Go.Shelf.Ren := ⟨fun | 145 => 151 | 220 => 192 | 219 => 242 | 217 => 277 | 225 => 278 | 224 => 279 | 267 => 280 | 266 => 309 | 314 => 310 | n => n, fun | 9 => 9 | 4 => 4 | 59 => 213 | 3 => 3 | 5 => 5 | 46 => 243 | 146 => 343 | 51 => 321 | n => n, fun | 1 => 1 | n => n⟩
open Go.RowKit Go.Lib in
def Tryz.laysM138_ren : Go.Shelf.Ren := ⟨fun | 138 => 266 | 195 => 304 | 218 => 306 | 143 => 267 | 219 => 242 | 217 => 277 | 225 => 278 | 224 => 279 | 267 => 280 | 266 => 309 | 314 => 310 | n => n, fun | 9 => 9 | 3 => 3 | 4 => 4 | 5 => 5 | 0 => 0 | 46 => 243 | 146 => 343 | 51 => 321 | n => n, fun | 1 => 1 | n => n⟩
open Go.RowKit Go.Lib in
def Tryz.lays190_ren : Go.Shelf.Ren := ⟨fun | 190 => 205 | 125 => 254 | 258 => 253 | 128 => 298 | 129 => 260 | 302 => 289 | 303 => 290 | 304 => 291 | 305 => 292 | 306 => 293 | 307 => 294 | 308 => 295 | 309 => 296 | 310 => 297 | 333 => 314 | 329 => 315 | 330 => 316 | 334 => 317 | 335 => 318 | 336 => 319 | 344 => 321 | n => n, fun | 31 => 68 | 9 => 9 | 3 => 3 | 46 => 243 | 0 => 0 | 51 => 321 | 53 => 37 | 4 => 4 | 183 => 332 | 182 => 331 | 131 => 259 | 5 => 5 | 218 => 345 | 222 => 349 | 228 => 357 | 229 => 358 | n => n, fun | n => n⟩
theorem Tryz.lays190 : Go.Proofs.Lays.n190 Tryz.prog Tryz.lays190_ren := {
  mixed := by kernel_rfl
  f125 := Tryz.func254.trans (congrArg some (by kernel_rfl))
  f128 := Tryz.func298.trans (congrArg some (by kernel_rfl))
  f129 := Tryz.func260.trans (congrArg some (by kernel_rfl))
  f190 := Tryz.func205.trans (congrArg some (by kernel_rfl))
  f258 := Tryz.func253.trans (congrArg some (by kernel_rfl))
  f302 := Tryz.func289.trans (congrArg some (by kernel_rfl))
  f303 := Tryz.func290.trans (congrArg some (by kernel_rfl))
  f304 := Tryz.func291.trans (congrArg some (by kernel_rfl))
  f305 := Tryz.func292.trans (congrArg some (by kernel_rfl))
  f306 := Tryz.func293.trans (congrArg some (by kernel_rfl))
  f307 := Tryz.func294.trans (congrArg some (by kernel_rfl))
  f308 := Tryz.func295.trans (congrArg some (by kernel_rfl))
  f309 := Tryz.func296.trans (congrArg some (by kernel_rfl))
  f310 := Tryz.func297.trans (congrArg some (by kernel_rfl))
  f329 := Tryz.func315.trans (congrArg some (by kernel_rfl))
  f330 := Tryz.func316.trans (congrArg some (by kernel_rfl))
  f333 := Tryz.func314.trans (congrArg some (by kernel_rfl))
  f334 := Tryz.func317.trans (congrArg some (by kernel_rfl))
  f335 := Tryz.func318.trans (congrArg some (by kernel_rfl))
  f336 := Tryz.func319.trans (congrArg some (by kernel_rfl))
  f344 := Tryz.func321.trans (congrArg some (by kernel_rfl))
  t0 := Tryz.underlying0
  a0 := Tryz.isAgg0
  z0 := Tryz.sizeOf0
  v0 := Tryz.zeroValue0
  t3 := Tryz.underlying3
  a3 := Tryz.isAgg3
  z3 := Tryz.sizeOf3
  v3 := Tryz.zeroValue3
  t4 := Tryz.underlying4
  a4 := Tryz.isAgg4
  z4 := Tryz.sizeOf4
  v4 := Tryz.zeroValue4
  t5 := Tryz.underlying5
  a5 := Tryz.isAgg5
  z5 := Tryz.sizeOf5
  v5 := Tryz.zeroValue5
  t9 := Tryz.underlying9
  a9 := Tryz.isAgg9
  z9 := Tryz.sizeOf9
  v9 := Tryz.zeroValue9
  t31 := Tryz.underlying68
  a31 := Tryz.isAgg68
  z31 := Tryz.sizeOf68
  v31 := Tryz.zeroValue68
  t46 := Tryz.underlying243
  a46 := Tryz.isAgg243
  z46 := Tryz.sizeOf243
  v46 := Tryz.zeroValue243
  t51 := Tryz.underlying321
  a51 := Tryz.isAgg321
  z51 := Tryz.sizeOf321
  v51 := Tryz.zeroValue321
  t53 := Tryz.underlying37
  a53 := Tryz.isAgg37
  z53 := Tryz.sizeOf37
  v53 := Tryz.zeroValue37
  t131 := Tryz.underlying259
  a131 := Tryz.isAgg259
  z131 := Tryz.sizeOf259
  v131 := Tryz.zeroValue259
  t182 := Tryz.underlying331
  a182 := Tryz.isAgg331
  z182 := Tryz.sizeOf331
  v182 := Tryz.zeroValue331
  t183 := Tryz.underlying332
  a183 := Tryz.isAgg332
  z183 := Tryz.sizeOf332
  v183 := Tryz.zeroValue332
  t218 := Tryz.underlying345
  a218 := Tryz.isAgg345
  z218 := Tryz.sizeOf345
  v218 := Tryz.zeroValue345
  t222 := Tryz.underlying349
  a222 := Tryz.isAgg349
  z222 := Tryz.sizeOf349
  v222 := Tryz.zeroValue349
  t228 := Tryz.underlying357
  a228 := Tryz.isAgg357
  z228 := Tryz.sizeOf357
  v228 := Tryz.zeroValue357
  t229 := Tryz.underlying358
  a229 := Tryz.isAgg358
  z229 := Tryz.sizeOf358
  v229 := Tryz.zeroValue358 }
open Go.Sort Go.RowKit in
theorem Tryz.slices_Sort_string (blk off cap : Nat) (ss : List (List UInt8)) (w : World) (hH : Holds encStr w blk off ss.toArray) (hblk : blk < w.heap.size) (hsz : ss.length < 4611686018427387904) :
    Calls Tryz.prog 205 #[.slice (some ⟨blk, off, none⟩) ss.length cap] w fun e w' =>
      e = .returned (.tuple #[]) ∧ ∃ n os, w' = grow (putRow encStr (Sort.ahead w n) blk off (ss.mergeSort fun x y => decide (x ≤ y)).toArray) os := Any.slices_Sort_string Tryz.lays190 blk off cap ss w hH hblk hsz
def Tryz.lays222_ren : Go.Shelf.Ren := ⟨fun | 222 => 229 | n => n, fun | 9 => 9 | 5 => 5 | 3 => 3 | 4 => 4 | n => n, fun | n => n⟩
open Go.RowKit Go.Lib in
def Tryz.lays149_ren : Go.Shelf.Ren := ⟨fun | 149 => 178 | 222 => 229 | n => n, fun | 9 => 9 | 5 => 5 | 3 => 3 | 4 => 4 | n => n, fun | n => n⟩
theorem Tryz.lays149 : Go.Proofs.Lays.n149 Tryz.prog Tryz.lays149_ren := {
  mixed := by kernel_rfl
  f149 := Tryz.func178.trans (congrArg some (by kernel_rfl))
  f222 := Tryz.func229.trans (congrArg some (by kernel_rfl))
  t3 := Tryz.underlying3
  a3 := Tryz.isAgg3
  z3 := Tryz.sizeOf3
  v3 := Tryz.zeroValue3
  t4 := Tryz.underlying4
  a4 := Tryz.isAgg4
  z4 := Tryz.sizeOf4
  v4 := Tryz.zeroValue4
  t5 := Tryz.underlying5
  a5 := Tryz.isAgg5
  z5 := Tryz.sizeOf5
  v5 := Tryz.zeroValue5
  t9 := Tryz.underlying9
  a9 := Tryz.isAgg9
  z9 := Tryz.sizeOf9
  v9 := Tryz.zeroValue9 }
open Go.RowKit Go.Lib in
theorem Tryz.strings_LastIndexByte (s : ByteArray) (c : Int) (hs : s.size < 4611686018427387904) (w : World) :
    Calls Tryz.prog 178 #[.string s, .int .u8 c] w fun e w' => e = .returned (.int .i64 (Lib.lastIndexByte s c)) ∧ w' = w := Any.strings_LastIndexByte Tryz.lays149 s c hs w
def Tryz.lays207_ren : Go.Shelf.Ren := ⟨fun | 207 => 264 | n => n, fun | 9 => 9 | 4 => 4 | 3 => 3 | n => n, fun | n => n⟩
open Go.RowKit Go.Lib in
def Tryz.lays209_ren : Go.Shelf.Ren := ⟨fun | 209 => 226 | 207 => 264 | n => n, fun | 9 => 9 | 4 => 4 | 3 => 3 | n => n, fun | n => n⟩
open Go.RowKit Go.Lib in
def Tryz.lays102_ren : Go.Shelf.Ren := ⟨fun | 102 => 173 | 209 => 226 | 207 => 264 | n => n, fun | 9 => 9 | 4 => 4 | 3 => 3 | n => n, fun | n => n⟩
theorem Tryz.lays102 : Go.Proofs.Lays.n102 Tryz.prog Tryz.lays102_ren := {
  mixed := by kernel_rfl
  f102 := Tryz.func173.trans (congrArg some (by kernel_rfl))
  f207 := Tryz.func264.trans (congrArg some (by kernel_rfl))
  f209 := Tryz.func226.trans (congrArg some (by kernel_rfl))
  t3 := Tryz.underlying3
  a3 := Tryz.isAgg3
  z3 := Tryz.sizeOf3
  v3 := Tryz.zeroValue3
  t4 := Tryz.underlying4
  a4 := Tryz.isAgg4
  z4 := Tryz.sizeOf4
  v4 := Tryz.zeroValue4
  t9 := Tryz.underlying9
  a9 := Tryz.isAgg9
  z9 := Tryz.sizeOf9
  v9 := Tryz.zeroValue9 }
open Go.RowKit Go.Lib in
theorem Tryz.strings_TrimSuffix (s p : ByteArray) (w : World) (hs : s.size ≤ 9223372036854775807) :
    Calls Tryz.prog 173 #[.string s, .string p] w fun e w' => e = .returned (.string ⟨(Lib.trimSuffix s.data.toList p.data.toList).toArray⟩) ∧ w' = w := Any.strings_TrimSuffix Tryz.lays102 s p w hs
open Go.RowKit Go.Lib in
def Tryz.lays221_ren : Go.Shelf.Ren := ⟨fun | 221 => 227 | 268 => 265 | 138 => 266 | 143 => 267 | 195 => 304 | 197 => 305 | 218 => 306 | 219 => 242 | 260 => 320 | 217 => 277 | 225 => 278 | 224 => 279 | 267 => 280 | 266 => 309 | 314 => 310 | n => n, fun | 9 => 9 | 3 => 3 | 31 => 68 | 4 => 4 | 0 => 0 | 105 => 327 | 21 => 21 | 5 => 5 | 46 => 243 | 119 => 353 | 139 => 356 | 138 => 355 | 146 => 343 | 51 => 321 | n => n, fun | 1 => 1 | 3 => 4 | 4 => 5 | n => n⟩
open Go.RowKit Go.Lib in
def Tryz.lays146_ren : Go.Shelf.Ren := ⟨fun | 146 => 174 | 221 => 227 | 268 => 265 | 138 => 266 | 143 => 267 | 195 => 304 | 197 => 305 | 218 => 306 | 219 => 242 | 260 => 320 | 217 => 277 | 225 => 278 | 224 => 279 | 267 => 280 | 266 => 309 | 314 => 310 | n => n, fun | 9 => 9 | 31 => 68 | 3 => 3 | 4 => 4 | 0 => 0 | 105 => 327 | 21 => 21 | 5 => 5 | 46 => 243 | 119 => 353 | 139 => 356 | 138 => 355 | 146 => 343 | 51 => 321 | n => n, fun | 1 => 1 | 3 => 4 | 4 => 5 | n => n⟩
theorem Tryz.lays146 : Go.Proofs.Lays.n146 Tryz.prog Tryz.lays146_ren := {
  mixed := by kernel_rfl
  f138 := Tryz.func266.trans (congrArg some (by kernel_rfl))
  f143 := Tryz.func267.trans (congrArg some (by kernel_rfl))
  f146 := Tryz.func174.trans (congrArg some (by kernel_rfl))
  f195 := Tryz.func304.trans (congrArg some (by kernel_rfl))
  f197 := Tryz.func305.trans (congrArg some (by kernel_rfl))
  f217 := Tryz.func277.trans (congrArg some (by kernel_rfl))
  f218 := Tryz.func306.trans (congrArg some (by kernel_rfl))
  f219 := Tryz.func242.trans (congrArg some (by kernel_rfl))
  f221 := Tryz.func227.trans (congrArg some (by kernel_rfl))
  f224 := Tryz.func279.trans (congrArg some (by kernel_rfl))
  f225 := Tryz.func278.trans (congrArg some (by kernel_rfl))
  f260 := Tryz.func320.trans (congrArg some (by kernel_rfl))
  f266 := Tryz.func309.trans (congrArg some (by kernel_rfl))
  f267 := Tryz.func280.trans (congrArg some (by kernel_rfl))
  f268 := Tryz.func265.trans (congrArg some (by kernel_rfl))
  f314 := Tryz.func310.trans (congrArg some (by kernel_rfl))
  t0 := Tryz.underlying0
  a0 := Tryz.isAgg0
  z0 := Tryz.sizeOf0
  v0 := Tryz.zeroValue0
  t3 := Tryz.underlying3
  a3 := Tryz.isAgg3
  z3 := Tryz.sizeOf3
  v3 := Tryz.zeroValue3
  t4 := Tryz.underlying4
  a4 := Tryz.isAgg4
  z4 := Tryz.sizeOf4
  v4 := Tryz.zeroValue4
  t5 := Tryz.underlying5
  a5 := Tryz.isAgg5
  z5 := Tryz.sizeOf5
  v5 := Tryz.zeroValue5
  t9 := Tryz.underlying9
  a9 := Tryz.isAgg9
  z9 := Tryz.sizeOf9
  v9 := Tryz.zeroValue9
  t21 := Tryz.underlying21
  a21 := Tryz.isAgg21
  z21 := Tryz.sizeOf21
  v21 := Tryz.zeroValue21
  t31 := Tryz.underlying68
  a31 := Tryz.isAgg68
  z31 := Tryz.sizeOf68
  v31 := Tryz.zeroValue68
  t46 := Tryz.underlying243
  a46 := Tryz.isAgg243
  z46 := Tryz.sizeOf243
  v46 := Tryz.zeroValue243
  t51 := Tryz.underlying321
  a51 := Tryz.isAgg321
  z51 := Tryz.sizeOf321
  v51 := Tryz.zeroValue321
  t105 := Tryz.underlying327
  a105 := Tryz.isAgg327
  z105 := Tryz.sizeOf327
  v105 := Tryz.zeroValue327
  t119 := Tryz.underlying353
  a119 := Tryz.isAgg353
  z119 := Tryz.sizeOf353
  t138 := Tryz.underlying355
  a138 := Tryz.isAgg355
  z138 := Tryz.sizeOf355
  v138 := Tryz.zeroValue355
  t139 := Tryz.underlying356
  a139 := Tryz.isAgg356
  z139 := Tryz.sizeOf356
  v139 := Tryz.zeroValue356
  t146 := Tryz.underlying343
  a146 := Tryz.isAgg343
  z146 := Tryz.sizeOf343
  v146 := Tryz.zeroValue343
  g1 := by kernel_rfl
  g3 := by kernel_rfl
  g4 := by kernel_rfl }
open Go.RowKit Go.Lib in
theorem Tryz.strings_Split (s sep : ByteArray) (m : Int) (w : World) (hs : s.size < 4294967281) (hm : w.cell? ⟨1, 0, none⟩ = some (.int .i64 m)) (h1 : 1 ≤ sep.size) :
    Calls Tryz.prog 174 #[.string s, .string sep] w fun e w' =>
      e = .returned (.slice (some ⟨w.heap.size, 0, none⟩) (Lib.countB s sep + 1) (Lib.countB s sep + 1)) ∧ w' = w.alloc (.cells ((Lib.splitB sep 0 (Lib.countB s sep) s).map Value.string).toArray 9) := Any.strings_Split Tryz.lays146 (by kernel_rfl) s sep m w hs hm h1
def Tryz.laysM146_ren : Go.Shelf.Ren := ⟨fun | 146 => 174 | 221 => 227 | 268 => 265 | 138 => 266 | 143 => 267 | 195 => 304 | 197 => 305 | 218 => 306 | 219 => 242 | 260 => 320 | 217 => 277 | 225 => 278 | 224 => 279 | 267 => 280 | 266 => 309 | 314 => 310 | n => n, fun | 9 => 9 | 31 => 68 | 3 => 3 | 4 => 4 | 0 => 0 | 105 => 327 | 21 => 21 | 5 => 5 | 46 => 243 | 119 => 353 | 139 => 356 | 138 => 355 | 146 => 343 | 51 => 321 | n => n, fun | 1 => 1 | 3 => 4 | 4 => 5 | n => n⟩
open Go.RowKit Go.Lib in
def Tryz.lays197_ren : Go.Shelf.Ren := ⟨fun | 197 => 305 | 260 => 320 | n => n, fun | 9 => 9 | 21 => 21 | 3 => 3 | 4 => 4 | 5 => 5 | 105 => 327 | 119 => 353 | 0 => 0 | 46 => 243 | 139 => 356 | 138 => 355 | n => n, fun | 3 => 4 | 4 => 5 | n => n⟩
open Go.RowKit Go.Lib in
open Go.RowKit Go.Lib in
def Tryz.lays268_ren : Go.Shelf.Ren := ⟨fun | 268 => 265 | 195 => 304 | 197 => 305 | 260 => 320 | n => n, fun | 9 => 9 | 3 => 3 | 31 => 68 | 4 => 4 | 105 => 327 | 21 => 21 | 0 => 0 | 5 => 5 | 119 => 353 | 46 => 243 | 139 => 356 | 138 => 355 | n => n, fun | 3 => 4 | 4 => 5 | n => n⟩
open Go.RowKit Go.Lib in
open Go.RowKit Go.Lib in
open Go.RowKit Go.Lib in
def Tryz.lays260_ren : Go.Shelf.Ren := ⟨fun | 260 => 320 | n => n, fun | 9 => 9 | 21 => 21 | 3 => 3 | 4 => 4 | 5 => 5 | 119 => 353 | 0 => 0 | 46 => 243 | 139 => 356 | 138 => 355 | n => n, fun | 3 => 4 | 4 => 5 | n => n⟩
open Go.RowKit Go.Lib in
open Go.RowKit Go.Lib in
def Tryz.lays108_ren : Go.Shelf.Ren := ⟨fun | 108 => 244 | n => n, fun | 28 => 105 | 3 => 3 | 0 => 0 | 4 => 4 | n => n, fun | n => n⟩
open Go.Lib in
open Go.Lib in
def Tryz.lays107_ren : Go.Shelf.Ren := ⟨fun | 107 => 199 | 108 => 244 | n => n, fun | 28 => 105 | 3 => 3 | 4 => 4 | 0 => 0 | n => n, fun | n => n⟩
theorem Tryz.lays107 : Go.Proofs.Lays.n107 Tryz.prog Tryz.lays107_ren := {
  mixed := by kernel_rfl
  f107 := Tryz.func199.trans (congrArg some (by kernel_rfl))
  f108 := Tryz.func244.trans (congrArg some (by kernel_rfl))
  t0 := Tryz.underlying0
  a0 := Tryz.isAgg0
  z0 := Tryz.sizeOf0
  v0 := Tryz.zeroValue0
  t3 := Tryz.underlying3
  a3 := Tryz.isAgg3
  z3 := Tryz.sizeOf3
  v3 := Tryz.zeroValue3
  t4 := Tryz.underlying4
  a4 := Tryz.isAgg4
  z4 := Tryz.sizeOf4
  v4 := Tryz.zeroValue4
  t28 := Tryz.underlying105
  a28 := Tryz.isAgg105
  z28 := Tryz.sizeOf105
  v28 := Tryz.zeroValue105 }
open Go.Lib in
theorem Tryz.slices_Contains_int (b off n c : Nat) (zs : List Int) (x : Int) (w : World) (hz : n ≤ zs.length) (hbig : n ≤ 9223372036854775807) (hc : ∀ j, j < zs.length → w.cell? ⟨b, off + j, none⟩ = some (.int .i64 (zs.getD j 0))) :
    Calls Tryz.prog 199 #[.slice (some ⟨b, off, none⟩) n c, .int .i64 x] w fun e w' => e = .returned (.bool ((zs.take n).contains x)) ∧ w' = w := Any.slices_Contains_int Tryz.lays107 b off n c zs x w hz hbig hc
open Go.Lib in
def Tryz.laysNm215_ren : Go.Shelf.Ren := ⟨fun | 15 => 87 | n => n, fun | 22 => 105 | 3 => 3 | 4 => 4 | n => n, fun | n => n⟩
open Go.RowKit Go.Lib in
open Go.RowKit Go.Lib in
open Go.RowKit Go.Lib in
def Tryz.lays194_ren : Go.Shelf.Ren := ⟨fun | 194 => 206 | n => n, fun | 31 => 68 | 9 => 9 | 3 => 3 | 4 => 4 | 0 => 0 | n => n, fun | n => n⟩
theorem Tryz.lays194 : Go.Proofs.Lays.n194 Tryz.prog Tryz.lays194_ren := {
  mixed := by kernel_rfl
  f194 := Tryz.func206.trans (congrArg some (by kernel_rfl))
  t0 := Tryz.underlying0
  a0 := Tryz.isAgg0
  z0 := Tryz.sizeOf0
  v0 := Tryz.zeroValue0
  t3 := Tryz.underlying3
  a3 := Tryz.isAgg3
  z3 := Tryz.sizeOf3
  v3 := Tryz.zeroValue3
  t4 := Tryz.underlying4
  a4 := Tryz.isAgg4
  z4 := Tryz.sizeOf4
  v4 := Tryz.zeroValue4
  t9 := Tryz.underlying9
  a9 := Tryz.isAgg9
  z9 := Tryz.sizeOf9
  v9 := Tryz.zeroValue9
  t31 := Tryz.underlying68
  a31 := Tryz.isAgg68
  z31 := Tryz.sizeOf68
  v31 := Tryz.zeroValue68 }
open Go.RowKit Go.Lib Go.Sort in
open Go.RowKit Go.Lib Go.Sort in
theorem Tryz.slices_Compact_string (blk off cap : Nat) (zs : List (List UInt8)) (w : World) (hH : Holds encStr w blk off zs.toArray) (hsz : zs.length ≤ 9223372036854775807) (hcap : zs.length ≤ cap) :
    Calls Tryz.prog 206 #[.slice (some ⟨blk, off, none⟩) zs.length cap] w fun e w' => e = .returned (.slice (some ⟨blk, off, none⟩) (Lib.compact zs).length cap) ∧ ∃ q, w' = putRow encStr (Sort.ahead w q) blk off (Lib.compact zs ++ List.replicate (zs.length - (Lib.compact zs).length) []).toArray := Any.slices_Compact_string Tryz.lays194 blk off cap zs w hH hsz hcap
open Go.RowKit Go.Lib Go.Sort in
theorem Tryz.slices_Compact_string_empty (a : Option Addr) (cap : Nat) (w : World) :
    Calls Tryz.prog 206 #[.slice a 0 cap] w fun e w' => e = .returned (.slice a 0 cap) ∧ w' = w := Any.slices_Compact_string_empty Tryz.lays194 a cap w
open Go.RowKit Go.Sort in
theorem Tryz.slices_Sort_string_none (p : Option Addr) (cap : Nat) (w : World) :
    Calls Tryz.prog 205 #[.slice p 0 cap] w fun e w' => e = .returned (.tuple #[]) ∧ w' = w := Any.slices_Sort_string_none Tryz.lays190 p cap w
def Tryz.laysSlE041_f87_ren : Go.Shelf.Ren := ⟨fun | 41 => 87 | n => n, fun | 22 => 105 | 23 => 3 | 4 => 4 | n => n, fun | n => n⟩
open Go.RowKit Go.Lib in
open Go.RowKit Go.Lib in
def Tryz.laysSlE35_f221_ren : Go.Shelf.Ren := ⟨fun | 35 => 221 | n => n, fun | 22 => 23 | 23 => 5 | 3 => 3 | 4 => 4 | 0 => 0 | n => n, fun | n => n⟩
theorem Tryz.laysSlE35_f221 : Go.Proofs.SlLaysE.n35 Tryz.prog Tryz.laysSlE35_f221_ren := {
  mixed := by kernel_rfl
  f35 := ⟨Tryz.f221.name, by decide, Tryz.func221.trans (congrArg some (by kernel_rfl))⟩
  t0 := Tryz.underlying0
  a0 := Tryz.isAgg0
  z0 := Tryz.sizeOf0
  v0 := Tryz.zeroValue0
  t3 := Tryz.underlying3
  a3 := Tryz.isAgg3
  z3 := Tryz.sizeOf3
  v3 := Tryz.zeroValue3
  t4 := Tryz.underlying4
  a4 := Tryz.isAgg4
  z4 := Tryz.sizeOf4
  v4 := Tryz.zeroValue4
  t22 := Tryz.underlying23
  a22 := Tryz.isAgg23
  z22 := Tryz.sizeOf23
  v22 := Tryz.zeroValue23
  a23 := Tryz.isAgg5
  z23 := Tryz.sizeOf5 }
open Go.RowKit Go.Lib Go.Sort in
theorem Tryz.slices_Reverse {α : Type} [Inhabited α] (enc : α → Value) (h1 : OneCell enc) (blk off cap : Nat) (zs : List α) (w : World) (hH : Holds enc w blk off zs.toArray) (hsz : zs.length ≤ 9223372036854775807) :
    Calls Tryz.prog 221 #[.slice (some ⟨blk, off, none⟩) zs.length cap] w fun e w' => e = .returned (.tuple #[]) ∧ ∃ n, w' = putRow enc (Sort.ahead w n) blk off zs.reverse.toArray := AnyE.slices_Reverse Tryz.laysSlE35_f221 enc h1 blk off cap zs w hH hsz
open Go.RowKit Go.Lib Go.Sort in
theorem Tryz.slices_Reverse_empty (a : Option Addr) (cap : Nat) (w : World) :
    Calls Tryz.prog 221 #[.slice a 0 cap] w fun e w' => e = .returned (.tuple #[]) ∧ w' = w := AnyE.slices_Reverse_empty Tryz.laysSlE35_f221 a cap w
end Go.Proofs

namespace Go.Proofs.YtacekpdjapgfcaaGreatDoor
open Go Go.RowKit Go.Q
theorem rev_ok : RevOk := by
  intro w1 base v k xs hown hk
  obtain ⟨hl, hf⟩ := hown
  rw [byteCells_len, Nat.mul_one] at hl
  subst hl
  rcases hf with ⟨rfl, hn⟩ | ⟨g, cap, cur, rfl, hg, hh, hnc, hcm, hcs, htk⟩
  · obtain rfl : xs = [] := List.length_eq_zero_iff.1 hn
    refine (Tryz.slices_Reverse_empty none 0 w1).mono ?_
    rintro e w2 ⟨rfl, rfl⟩
    exact ⟨rfl, ⟨rfl, .inl ⟨rfl, rfl⟩⟩, Fr.refl _⟩
  · have hH : Sort.Holds (fun x : UInt8 => Value.int .u8 x.toNat) w1 g 0 xs.toArray := fun j hj => by
      have hj' : j < xs.length := by simpa using hj
      refine ⟨?_, by simp [World.frozen?, hh]⟩
      have e1 : cur.toList[j]? = some (Value.int .u8 (xs[j]).toNat) := by
        have : (cur.toList.take (xs.length * 1))[j]? = (Lib.byteCells xs)[j]? := by rw [htk]
        rw [List.getElem?_take, if_pos (by omega)] at this
        rw [this, byteCells_get, List.getElem?_eq_getElem hj']
        rfl
      rw [Nat.zero_add]
      simp only [World.cell?, hh]
      rw [show (xs.toArray)[j]! = xs[j] from by simp [hj']]
      simpa using e1
    refine (Tryz.slices_Reverse (fun x : UInt8 => Value.int .u8 x.toNat) (fun _ => rfl) g 0 cap xs w1 hH (by omega)).mono ?_
    rintro e w2 ⟨rfl, n, rfl⟩
    have hg2 : (Sort.putRow (fun x : UInt8 => Value.int .u8 x.toNat) (Sort.ahead w1 n) g 0 xs.reverse.toArray).heap[g]? = some (.cells (Sort.putCells (fun x : UInt8 => Value.int .u8 x.toNat) 0 xs.reverse.toArray cur) 5 (0, 0)) := by
      have hh' : (Sort.ahead w1 n).heap[g]? = some (.cells cur 5 (0, 0)) := hh
      unfold Sort.putRow Sort.mapBlock
      simp only [Array.getElem?_modify, if_true, hh', Option.map_some]
      rfl
    refine ⟨rfl, ⟨by rw [byteCells_len, List.length_reverse, Nat.mul_one], .inr ⟨g, cap, _, rfl, hg, hg2, hnc, hcm, by simp [Sort.putCells]; omega, ?_⟩⟩, ⟨rfl, rfl, rfl, by simp [Sort.ahead], fun k _ hkg => ?_⟩⟩
    · apply List.ext_getElem?
      intro j
      rw [List.getElem?_take, byteCells_get]
      split
      · rename_i hj
        have hj' : j < xs.length := by omega
        have hjc : j < cur.size := by omega
        simp only [Sort.putCells, Array.getElem?_toList, Array.getElem?_mapIdx]
        rw [Array.getElem?_eq_getElem hjc]
        simp only [Option.map_some, Nat.zero_le, true_and, Nat.zero_add, Nat.sub_zero]
        rw [if_pos (by simpa using hj')]
        rw [show (xs.reverse.toArray)[j]! = (xs.reverse)[j]'(by simpa using hj') from by simp [hj']]
        rw [List.getElem?_eq_getElem (by simpa using hj')]
        rfl
      · rename_i hj
        rw [List.getElem?_eq_none (by rw [List.length_reverse]; omega)]
        rfl
    · have hne : g ≠ k := fun e => hkg (by simp [Value.ownBlock, e])
      unfold Sort.putRow Sort.mapBlock
      simp only [Array.getElem?_modify, if_neg hne]
      rfl
end Go.Proofs.YtacekpdjapgfcaaGreatDoor

namespace Go.Q
open Go Go.RowKit
def Parts (w : World) (v : Value) (ls : List (List UInt8)) : Prop :=
  ∃ vs : List Value, Vals w v vs ∧ vs.length = ls.length ∧ ∀ (i : Nat) (u : Value) (l : List UInt8), vs[i]? = some u → ls[i]? = some l → Bytes w u l
theorem Parts.old {w w' : World} {v : Value} {ls : List (List UInt8)} (h : Parts w v ls) (f : Fr (fun _ => False) w w') : Parts w' v ls := by
  obtain ⟨vs, h1, h2, h3⟩ := h
  exact ⟨vs, h1.old f, h2, fun i u l hu hl => (h3 i u l hu hl).old f⟩
theorem Parts.form {w : World} {v : Value} {ls : List (List UInt8)} (h : Parts w v ls) : ∃ a cap, v = .slice a ls.length cap ∧ (0 < ls.length → ∃ b o, a = some ⟨b, o, none⟩ ∧ ∀ (i : Nat) (l : List UInt8), ls[i]? = some l → ∃ p c, w.cell? ⟨b, o + i, none⟩ = some (.slice p l.length c) ∧ Bytes w (.slice p l.length c) l) := by
  obtain ⟨vs, ⟨a, cap, rfl, hc, hm, hx⟩, h2, h3⟩ := h
  refine ⟨a, cap, by rw [h2], fun h0 => ?_⟩
  obtain ⟨b, o, rfl, hy⟩ := hx (by omega)
  refine ⟨b, o, rfl, fun i l hl => ?_⟩
  have hi : i < vs.length := by rw [h2]; exact (List.getElem?_eq_some_iff.1 hl).1
  have hu : vs[i]? = some vs[i] := List.getElem?_eq_getElem hi
  have hb := h3 i _ l hu hl
  obtain ⟨p, c, he, hr⟩ := hb.form
  rw [he] at hb hu
  exact ⟨p, c, hy i _ hu, hb⟩
theorem flat_take {ls : List (List UInt8)} {j : Nat} {l : List UInt8} (h : ls[j]? = some l) : (ls.take (j + 1)).flatten = (ls.take j).flatten ++ l := by
  rw [List.take_add_one, h]
  simp
theorem flat_le (ls : List (List UInt8)) (j : Nat) : (ls.take j).flatten.length ≤ ls.flatten.length := by
  have : ls.flatten = (ls.take j).flatten ++ (ls.drop j).flatten := by rw [← List.flatten_append, List.take_append_drop]
  rw [this, List.length_append]
  omega
end Go.Q
namespace Go.Proofs.YtacekpdjapgfcaaGreatDoor
open Go Go.RowKit Go.Q
theorem len_small (n : Nat) (_h : n ≤ 16777216) : (lenBytes n).length ≤ 5 := by
  unfold lenBytes
  split
  · simp
  split
  · simp
  split
  · simp
  split <;> simp
set_option maxRecDepth 20000 in
set_option maxHeartbeats 2000000 in
theorem wrap_any (t : Tag) (ht : tagGood t) (v : Value) (ls : List (List UInt8)) (w : World) (hp : Parts w v ls) (hl : ls.flatten.length ≤ 16777216) (hn : ls.length ≤ 1000) :
    Calls Tryz.prog 89 #[tagV t, v] w fun e w' => ∃ v', e = .returned (.tuple #[v', .int .i64 0]) ∧ w'.ownsRow w.heap.size 5 1 v' (wrapS t ls.flatten).length (Lib.byteCells (wrapS t ls.flatten)) ∧ Fr (fun _ => False) w w' := by
  obtain ⟨a, cap, rfl, -⟩ := hp.form
  have HP := Lib.hid hp
  have HT := Lib.hid ht
  obtain ⟨c, n, m⟩ := t
  have B := Blk.new w 97 #[.int .i64 c, .int .i64 n, .bool m]
  have F0 : Fr (fun _ => False) w (w.alloc (.cells #[.int .i64 c, .int .i64 n, .bool m] 97)) := (Fr.refl w).alloc _
  obtain ⟨z, hz⟩ : ∃ z, z = w.heap.size := ⟨_, rfl⟩
  rw [← hz] at B
  have HZ := Lib.hid hz
  clear hz hp ht
  rw [show tagV ⟨c, n, m⟩ = .agg #[.int .i64 c, .int .i64 n, .bool m] from rfl]
  go_enter Tryz.func89, Tryz.ntmps89
  go_upto_region 1 with fail
  rw [← HZ.out]
  generalize (w.alloc (.cells #[.int .i64 c, .int .i64 n, .bool m] 97)) = w0 at *
  have S := B.cell
  go_wp2_with fail
  refine (headBytes_any ⟨c, n, m⟩ HT.out w0).mono ?_
  rintro e w1 ⟨vb, rfl, hob, F1⟩
  have G1 := F0.trans F1
  have hob' := own_le hob F0.size
  obtain ⟨ab, cb, rfl, -⟩ := (Vals.of_own hob').1.form
  have HOB := Lib.hid hob'
  clear hob hob' F0 F1 B S
  go_wp2_with fail
  have HPP := Lib.hid (HP.out.old G1)
  go_loopg [8, 25] ls.length (fun g s i wr => ∃ j : Nat, g = ls.length - j ∧ j ≤ ls.length ∧ s = .int .i64 (ls.take j).flatten.length ∧ i = .int .i64 j ∧ wr = w1)
  case atStart => exact ⟨0, rfl, by omega, rfl, rfl, rfl⟩
  case round =>
    obtain ⟨j, hg, hj, rfl, rfl, rfl⟩ := hrel
    have HG := Lib.hid hg
    clear hg
    by_cases hjl : j < ls.length
    · obtain ⟨a', cap', he, hx⟩ := HPP.out.form
      simp only [Value.slice.injEq, true_and] at he
      obtain ⟨rfl, rfl⟩ := he
      obtain ⟨b, o, rfl, hy⟩ := hx (by omega)
      obtain ⟨l, hlj⟩ : ∃ l, ls[j]? = some l := ⟨_, List.getElem?_eq_getElem hjl⟩
      obtain ⟨p, cc, ec, -⟩ := hy j l hlj
      have hft := congrArg List.length (flat_take hlj)
      rw [List.length_append] at hft
      have hfl := flat_le ls (j + 1)
      generalize (ls.take j).flatten.length = s0 at *
      generalize hs1 : (ls.take (j + 1)).flatten.length = s1 at *
      have HS := Lib.hid hs1
      have q1 : (0 : Int) ≤ (j : Int) := by omega
      have q2 : (j : Int) < (ls.length : Int) := by omega
      have q3 : ¬ (16777216 : Int) < (s0 : Int) + (l.length : Int) := by omega
      clear hx hy hlj hs1
      go_wp2_with fail
      go_roundg (ls.length - (j + 1))
      case measure => rw [HG.out]; omega
      case rel => exact ⟨j + 1, rfl, by omega, by rw [HS.out]; go_num, by go_num, rfl⟩
    · have hj' : (ls.take j).flatten = ls.flatten := by rw [List.take_of_length_le (by omega)]
      rw [hj']
      obtain ⟨N, hN⟩ : ∃ N, N = ls.flatten.length := ⟨_, rfl⟩
      rw [← hN] at hl ⊢
      have HN := Lib.hid hN
      have HLE := Lib.hid (length_any N hl wr rev_ok)
      clear hN hj'
      go_wp2_with fail
      refine HLE.out.mono ?_
      rintro e w2 ⟨vd, rfl, hod, F2⟩
      have G2 := G1.trans F2
      have hb0 : w.heap.size ≤ w2.heap.size := G2.size
      have ho1 := ownsRow_fr HOB.out F2 (fun _ _ h => h)
      have hvd := (Vals.of_own hod).1
      obtain ⟨ad, cd, rfl, -⟩ := hvd.form
      obtain ⟨v3, w3, hr3, ho3, F3, _⟩ := append_bytes ho1 ad _ cd (lenBytes N) hvd (by have := len_small N hl; simp; omega) hb0
      have hvb := (Vals.of_own ho1).2
      have G3 := G2.trans' F3 (fun i hi e => absurd hi (by have := hvb i e; omega))
      have hll : (Lib.byteCells (lenBytes N)).length = (lenBytes N).length := byteCells_len _
      obtain ⟨a3, c3, rfl, -⟩ := (Vals.of_own ho3).1
      have HO3 := Lib.hid ho3
      have HG3 := Lib.hid G3
      clear hod G2 ho1 hvd ho3 F3 hvb G3 F2 HLE
      generalize (Lib.byteCells ([tagByte ⟨c, n, m⟩] ++ lenBytes N)).length = L3 at *
      go_wp2_with (at_builtin; refine wpList_append_run (by rfl) (.tmp 41) (.tmp 42) 23 (by rfl) _ w3 (by exact hr3) ?_)
      have HP3 := Lib.hid (HP.out.old HG3.out)
      clear HPP HG HOB hr3 hll
      go_loopg [6, 46] ls.length (fun g s i wr => ∃ (j : Nat) (a6 : Option Addr) (n6 c6 : Nat), g = ls.length - j ∧ j ≤ ls.length ∧ s = .slice a6 n6 c6 ∧ i = .int .i64 j ∧ wr.ownsRow w.heap.size 5 1 (.slice a6 n6 c6) (1 + (lenBytes N).length + (ls.take j).flatten.length) (Lib.byteCells (([tagByte ⟨c, n, m⟩] ++ lenBytes N) ++ (ls.take j).flatten)) ∧ Fr (fun _ => False) w wr)
      case atStart => exact ⟨0, a3, L3, c3, rfl, by omega, rfl, rfl, by simpa using HO3.out, HG3.out⟩
      case round =>
        obtain ⟨j, a6, n6, c6, hg, hj, rfl, rfl, ho6, G6⟩ := hrel
        have HG := Lib.hid hg
        clear hg
        by_cases hjl : j < ls.length
        · obtain ⟨a', cap', he, hx⟩ := (HP.out.old G6).form
          simp only [Value.slice.injEq, true_and] at he
          obtain ⟨rfl, rfl⟩ := he
          obtain ⟨b, o, rfl, hy⟩ := hx (by omega)
          obtain ⟨l, hlj⟩ : ∃ l, ls[j]? = some l := ⟨_, List.getElem?_eq_getElem hjl⟩
          obtain ⟨p, cc, ec, hbl⟩ := hy j l hlj
          have hft := flat_take hlj
          have hft2 := congrArg List.length hft
          rw [List.length_append] at hft2
          have hfl := flat_le ls (j + 1)
          have hb0 : w.heap.size ≤ wr.heap.size := G6.size
          obtain ⟨v7, w7, hr7, ho7, F7, _⟩ := append_bytes ho6 p _ cc l hbl (by have := len_small N hl; have := HN.out; omega) hb0
          have hvb := (Vals.of_own ho6).2
          have G7 := G6.trans' F7 (fun i hi e => absurd hi (by have := hvb i e; omega))
          rw [List.append_assoc, ← hft, Nat.add_assoc, ← hft2] at ho7
          have HO7 := Lib.hid ho7
          have HG7 := Lib.hid G7
          obtain ⟨a7, c7, rfl, -⟩ := (Vals.of_own ho7).1
          have q1 : (0 : Int) ≤ (j : Int) := by omega
          have q2 : (j : Int) < (ls.length : Int) := by omega
          clear hx hy hlj hft hft2 hfl ho6 ho7 F7 hvb G6 G7 hbl
          generalize (Lib.byteCells ([tagByte ⟨c, n, m⟩] ++ lenBytes N ++ (ls.take (j + 1)).flatten)).length = L7 at *
          go_wp2_with (at_builtin; refine wpList_append_run (by rfl) (.tmp 50) (.tmp 51) 23 (by rfl) _ w7 (by exact hr7) ?_)
          go_roundg (ls.length - (j + 1))
          case measure => rw [HG.out]; omega
          case rel => exact ⟨j + 1, a7, L7, c7, rfl, by omega, rfl, by go_num, HO7.out, HG7.out⟩
        · have hj' : (ls.take j).flatten = ls.flatten := by rw [List.take_of_length_le (by omega)]
          rw [hj'] at ho6
          have HO6 := Lib.hid ho6
          have HG6 := Lib.hid G6
          clear ho6 G6 hj' HP
          go_wp2_with fail
          refine bodyPost_ret (v := .tuple #[.slice a6 n6 c6, .int .i64 0]) (by simp [results, Tryz.results89, go_sem]) rfl ⟨_, rfl, ?_, HG6.out⟩
          have := HO6.out
          rw [wrap_len, ← HN.out]
          have e : wrapS ⟨c, n, m⟩ ls.flatten = [tagByte ⟨c, n, m⟩] ++ lenBytes N ++ ls.flatten := by rw [wrapS, ← HN.out]; simp
          rw [e]
          rw [← HN.out] at this
          exact this
end Go.Proofs.YtacekpdjapgfcaaGreatDoor

namespace Go.Q
open Go Go.RowKit
def arcOk (n : Int) : Bool := decide (0 ≤ n ∧ n ≤ 2147483647)
def twoOk (a b : Int) : Bool := decide (a = 0 ∨ a = 1) && decide (b < 40) || decide (a = 2) && decide (b ≤ 2147483567)
def oidOk (o : List Int) : Bool := decide (2 ≤ o.length ∧ o.length ≤ 32) && o.all arcOk && twoOk (o.getD 0 0) (o.getD 1 0)
end Go.Q
namespace Go.Proofs.YtacekpdjapgfcaaGreatDoor
open Go Go.RowKit Go.Q
set_option maxRecDepth 20000 in
set_option maxHeartbeats 1000000 in
theorem oidRight_any (v : Value) (o : List Int) (w : World) (h : Ints w v o) :
    Calls Tryz.prog 194 #[v] w fun e w' => e = .returned (.bool (oidOk o)) ∧ w = w' := by
  obtain ⟨a, cap, rfl, hc, hm, hx⟩ := Ints.form h
  have HX := Lib.hid hx
  clear h hx
  rcases Classical.em (2 ≤ o.length ∧ o.length ≤ 32) with hl | hl
  · obtain ⟨hl1, hl2⟩ := hl
    have q1 : decide ((o.length : Int) < 2) = false := decide_eq_false (by omega)
    have q2 : decide ((32 : Int) < (o.length : Int)) = false := decide_eq_false (by omega)
    go_enter Tryz.func194, Tryz.ntmps194
    go_wp2_with fail
    go_loopg [15] o.length (fun g i wr => ∃ j : Nat, g = o.length - j ∧ j ≤ o.length ∧ i = .int .i64 j ∧ (o.take j).all arcOk = true ∧ wr = w)
    case atStart => exact ⟨0, rfl, by omega, rfl, rfl, rfl⟩
    case round =>
      obtain ⟨j, hg, hj, rfl, hall, rfl⟩ := hrel
      have HG := Lib.hid hg
      have HA := Lib.hid hall
      clear hg hall
      obtain ⟨b, off, rfl, hy⟩ := HX.out (by omega)
      by_cases hjl : j < o.length
      · obtain ⟨x, hxj⟩ : ∃ x, o[j]? = some x := ⟨_, List.getElem?_eq_getElem hjl⟩
        have ex := hy j x hxj
        have hat : (o.take (j + 1)).all arcOk = ((o.take j).all arcOk && arcOk x) := by
          rw [List.take_add_one, hxj]
          simp
        have HAT := Lib.hid hat
        have q3 : (0 : Int) ≤ (j : Int) := by omega
        have q4 : (j : Int) < (o.length : Int) := by omega
        have hbad : arcOk x = false → oidOk o = false := fun hb => by
          have : o.all arcOk = false := by
            rw [List.all_eq_false]
            exact ⟨x, List.mem_of_getElem? hxj, by simp [hb]⟩
          simp [oidOk, this]
        have HB := Lib.hid hbad
        clear hy hxj hat hbad
        rcases Classical.em (x < 0) with h0 | h0
        · have q5 : decide (x < 0) = true := decide_eq_true h0
          go_wp2_with fail
          go_ret
          exact ⟨by rw [HB.out (by simp [arcOk]; omega)]; rfl, rfl⟩
        · have q5 : decide (x < 0) = false := decide_eq_false h0
          rcases Classical.em ((2147483647 : Int) < x) with h1 | h1
          · have q6 : decide ((2147483647 : Int) < x) = true := decide_eq_true h1
            go_wp2_with fail
            go_ret
            exact ⟨by rw [HB.out (by simp [arcOk]; omega)]; rfl, rfl⟩
          · have q6 : decide ((2147483647 : Int) < x) = false := decide_eq_false h1
            go_wp2_with fail
            go_roundg (o.length - (j + 1))
            case measure => rw [HG.out]; omega
            case rel => exact ⟨j + 1, rfl, by omega, by go_num, by rw [HAT.out, HA.out]; simp [arcOk]; omega, rfl⟩
      · have hall : o.all arcOk = true := by
          have := HA.out
          rwa [List.take_of_length_le (by omega)] at this
        obtain ⟨x0, hx0⟩ : ∃ x, o[0]? = some x := ⟨_, List.getElem?_eq_getElem (by omega)⟩
        obtain ⟨x1, hx1⟩ : ∃ x, o[1]? = some x := ⟨_, List.getElem?_eq_getElem (by omega)⟩
        have e0 := hy 0 x0 hx0
        have e1 := hy 1 x1 hx1
        have hE : oidOk o = twoOk x0 x1 := by
          simp [oidOk, hall, hl1, hl2, List.getD, hx0, hx1]
        have HE := Lib.hid hE
        have z1 : (1 : Int) < (o.length : Int) := by omega
        have z0 : (0 : Int) < (o.length : Int) := by omega
        simp only [Nat.add_zero] at e0
        clear hy hx0 hx1 hall hE HA HX
        rcases Classical.em (x0 = 0) with h0 | h0
        · subst h0
          go_wp2_with fail
          go_ret
          exact ⟨by rw [HE.out]; simp [twoOk], rfl⟩
        · have p0 : (x0 == 0) = false := beq_eq_false_iff_ne.2 h0
          rcases Classical.em (x0 = 1) with h1 | h1
          · subst h1
            go_wp2_with fail
            go_ret
            exact ⟨by rw [HE.out]; simp [twoOk], rfl⟩
          · have p1 : (x0 == 1) = false := beq_eq_false_iff_ne.2 h1
            rcases Classical.em (x0 = 2) with h2 | h2
            · subst h2
              go_wp2_with fail
              go_ret
              exact ⟨by rw [HE.out]; simp [twoOk], rfl⟩
            · have p2 : (x0 == 2) = false := beq_eq_false_iff_ne.2 h2
              go_wp2_with fail
              go_ret
              exact ⟨by rw [HE.out]; simp [twoOk, h0, h1, h2], rfl⟩
  · have hE : oidOk o = false := by simp [oidOk]; omega
    have HE := Lib.hid hE
    rcases Classical.em (o.length < 2) with h2 | h2
    case' inl => have q1 : decide ((o.length : Int) < 2) = true := decide_eq_true (by omega)
    case' inr =>
      have q1 : decide ((o.length : Int) < 2) = false := decide_eq_false (by omega)
      have q2 : decide ((32 : Int) < (o.length : Int)) = true := decide_eq_true (by omega)
    all_goals
      clear hE hl HX
      go_enter Tryz.func194, Tryz.ntmps194
      go_wp2_with fail
      go_ret
      exact ⟨by rw [HE.out]; rfl, rfl⟩
end Go.Proofs.YtacekpdjapgfcaaGreatDoor

namespace Go.Proofs.YtacekpdjapgfcaaGreatDoor
open Go Go.RowKit Go.Q
theorem append_ints {w : World} {base n : Nat} {v : Value} {xs : List Int} (hown : w.ownsRow base 3 1 v n (intCells xs)) (sp : Option Addr) (m c : Nat) (l : List Int) (hsrc : Ints w (.slice sp m c) l) (hsz : n + m ≤ 439804651110) (hb : base ≤ w.heap.size) :
    ∃ v' w', (Builtin.append_ #[105, 105] 105 #[v, .slice sp m c]).run Tryz.prog w = .ok v' w' ∧ w'.ownsRow base 3 1 v' (n + m) (intCells (xs ++ l)) ∧ Fr (fun k => v.ownBlock = some k) w w' ∧ (v'.ownBlock = v.ownBlock ∨ v'.ownBlock = some w.heap.size) := by
  obtain ⟨i0, hi0, hz0, hz1, hz2⟩ := info_parts info3
  obtain ⟨a, cap, he, hc, hm, hx⟩ := hsrc
  rw [intCells_len] at he hc hx
  simp only [Value.slice.injEq] at he
  obtain ⟨rfl, rfl, rfl⟩ := he
  rw [intCells_append]
  cases sp with
  | none =>
    have hl : l.length = 0 := by
      rcases Nat.eq_zero_or_pos l.length with h | h
      · exact h
      · obtain ⟨b, o, h, _⟩ := hx h
        cases h
    obtain rfl : l = [] := List.length_eq_zero_iff.1 hl
    have hr : (Builtin.append_ #[105, 105] 105 #[v, .slice none 0 c]).run Tryz.prog w = .ok v w := by
      rcases hown.2 with ⟨rfl, rfl⟩ | ⟨g, cap, cur, rfl, _, _, hnc, _⟩
      · simp [Builtin.append_, run_underlying (P := Tryz.prog) (w := w) Tryz.underlying105, sizeOf, typeInfo, hi0, Builtin.lenOf, Builtin.firstCells]
      · simp [Builtin.append_, run_underlying (P := Tryz.prog) (w := w) Tryz.underlying105, sizeOf, typeInfo, hi0, Builtin.lenOf, Builtin.firstCells, hnc, storeCells]
    refine ⟨v, w, hr, ?_, Fr.refl w, .inl rfl⟩
    simpa [intCells] using hown
  | some ad =>
    obtain ⟨v', w', hr, h1, h2, _, h3⟩ := run_append_own_at (P := Tryz.prog) w base 105 105 3 i0 _ 1 8 Tryz.underlying105 hi0 hz0 hz1 hz2 rfl (by decide) v n (intCells xs) hown ad l.length c (intCells l) (by rw [intCells_len, Nat.mul_one]) (fun j u hu => by
      have hj : j < l.length := by rw [← intCells_len l]; exact (List.getElem?_eq_some_iff.1 hu).1
      obtain ⟨b, o, h, hy⟩ := hx (by omega)
      cases h
      rw [show (⟨b, o, none⟩ : Addr).add j = ⟨b, o + j, none⟩ from by unfold Addr.add; split <;> simp_all]
      exact hy j u hu) (intCells_one l) (by unfold maxLen; omega) (by omega) hb
    exact ⟨v', w', hr, h1, Fr.of_grown h2, h3⟩
def numsS (o : List Int) : List Int := (40 * o.getD 0 0 + o.getD 1 0) :: o.drop 2
set_option maxRecDepth 20000 in
set_option maxHeartbeats 1000000 in
theorem numbers_any (v : Value) (o : List Int) (w : World) (h : Ints w v o) (ho : oidOk o = true) :
    Calls Tryz.prog 274 #[v] w fun e w' => ∃ v', e = .returned v' ∧ Ints w' v' (numsS o) ∧ (∀ k, v'.ownBlock = some k → w.heap.size ≤ k) ∧ Fr (fun _ => False) w w' := by
  obtain ⟨a, cap, rfl, hc, hm, hx⟩ := Ints.form h
  simp only [oidOk, Bool.and_eq_true, decide_eq_true_eq] at ho
  obtain ⟨⟨⟨hl1, hl2⟩, hall⟩, -⟩ := ho
  obtain ⟨b, off, rfl, hy⟩ := hx (by omega)
  obtain ⟨x0, hx0⟩ : ∃ x, o[0]? = some x := ⟨_, List.getElem?_eq_getElem (by omega)⟩
  obtain ⟨x1, hx1⟩ : ∃ x, o[1]? = some x := ⟨_, List.getElem?_eq_getElem (by omega)⟩
  have e0 := hy 0 x0 hx0
  have e1 := hy 1 x1 hx1
  simp only [Nat.add_zero] at e0
  have a0 : arcOk x0 = true := List.all_eq_true.1 hall x0 (List.mem_of_getElem? hx0)
  have a1 : arcOk x1 = true := List.all_eq_true.1 hall x1 (List.mem_of_getElem? hx1)
  simp only [arcOk, decide_eq_true_eq] at a0 a1
  obtain ⟨y, hyy⟩ : ∃ y, y = 40 * x0 + x1 := ⟨_, rfl⟩
  have hn : numsS o = y :: o.drop 2 := by simp [numsS, List.getD, hx0, hx1, hyy]
  have wr : ∀ n : Int, 0 ≤ n → n < 1000000000000 → IntKind.i64.wrap n = n := fun n h0 h1 => by simp [IntKind.wrap, IntKind.signed, IntKind.bits]; omega
  have hye : IntKind.i64.wrap (IntKind.i64.wrap (40 * x0) + x1) = 40 * x0 + x1 := by
    rw [wr (40 * x0) (by omega) (by omega)]
    exact wr _ (by omega) (by omega)
  have HYE := Lib.hid hye
  have z0 : (0 : Int) < (o.length : Int) := by omega
  have z1 : (1 : Int) < (o.length : Int) := by omega
  have z0' : 0 < o.length := by omega
  have z1' : 1 < o.length := by omega
  have z2 : (2 : Int) ≤ (o.length : Int) := by omega
  have z3 : (o.length : Int) ≤ (cap : Int) := by omega
  have F1 : Fr (fun _ => False) w ((w.alloc (.cells #[.int .i64 (40 * x0 + x1)] 3)).drew) := ((Fr.refl w).alloc _).drew
  have BX := (Blk.new w 3 #[.int .i64 (40 * x0 + x1)]).drew
  have own1 : ((w.alloc (.cells #[.int .i64 (40 * x0 + x1)] 3)).drew).ownsRow w.heap.size 3 1 (.slice (some ⟨w.heap.size, 0, none⟩) 1 1) 1 (intCells [y]) := by
    have := own_block BX 1 (by simp) (by unfold maxLen; simp) w.heap.size (Nat.le_refl _)
    rw [hyy]
    simpa [intCells] using this
  have hsub : ∀ (a' : Option Addr), (2 < o.length → a' = some ⟨b, off + 2, none⟩) → Ints ((w.alloc (.cells #[.int .i64 (40 * x0 + x1)] 3)).drew) (.slice a' (o.length - 2) (cap - 2)) (o.drop 2) := fun a' ha => by
    have h1 := (h.old F1).sub 2 o.length hl1 (Nat.le_refl _) a' (cap - 2) (fun hlt b' o' e => by
      simp only [Option.some.injEq, Addr.mk.injEq, and_true] at e
      obtain ⟨rfl, rfl⟩ := e
      exact ha hlt) (by omega) (by omega)
    have h2 : ((intCells o).drop 2).take (o.length - 2) = intCells (o.drop 2) := by
      rw [List.take_of_length_le (by rw [List.length_drop, intCells_len]; exact Nat.le_refl _)]
      simp [intCells]
    rwa [h2] at h1
  have HS := Lib.hid hsub
  have HN := Lib.hid hn
  have HO1 := Lib.hid own1
  have HF1 := Lib.hid F1
  by_cases hc2 : cap = 2
  · obtain ⟨v', w', hr, hown', hF, _⟩ := append_ints HO1.out (some ⟨b, off, none⟩) (o.length - 2) (cap - 2) (o.drop 2) (HS.out _ (fun h => absurd h (by omega))) (by omega) (Nat.le_trans (Nat.le_of_lt (Nat.lt_succ_self _)) (by have := HF1.out.size; simp at this ⊢))
    have hr' := Lib.hid hr
    have HO := Lib.hid hown'
    have G := Lib.hid (HF1.out.trans' hF (fun i hi e => by simp [Value.ownBlock] at e; omega))
    obtain ⟨a7, c7, rfl, -⟩ := (Vals.of_own hown').1
    clear hye wr h hx hy hx0 hx1 hall F1 BX own1 hsub hn hr hown' hF
    go_enter Tryz.func274, Tryz.ntmps274
    go_wp2_with fail
    go_region_law (first | (refine step_append_run (by rfl) (.tmp 11) (.tmp 13) 105 (by rfl) _ w' (by rw [HYE.out]; exact hr'.out) ?_) | fail)
    all_goals
      go_wp2_with fail
      go_ret
      refine ⟨_, rfl, ?_, fun k hk => ((Vals.of_own HO.out).2 k hk).1, G.out⟩
      rw [HN.out]
      exact (Vals.of_own HO.out).1
  · obtain ⟨v', w', hr, hown', hF, _⟩ := append_ints HO1.out (some ⟨b, off + 2, none⟩) (o.length - 2) (cap - 2) (o.drop 2) (HS.out _ (fun _ => rfl)) (by omega) (Nat.le_trans (Nat.le_of_lt (Nat.lt_succ_self _)) (by have := HF1.out.size; simp at this ⊢))
    have hr' := Lib.hid hr
    have HO := Lib.hid hown'
    have G := Lib.hid (HF1.out.trans' hF (fun i hi e => by simp [Value.ownBlock] at e; omega))
    obtain ⟨a7, c7, rfl, -⟩ := (Vals.of_own hown').1
    clear hye wr h hx hy hx0 hx1 hall F1 BX own1 hsub hn hr hown' hF
    go_enter Tryz.func274, Tryz.ntmps274
    go_wp2_with fail
    go_region_law (first | (refine step_append_run (by rfl) (.tmp 11) (.tmp 13) 105 (by rfl) _ w' (by rw [HYE.out]; exact hr'.out) ?_) | fail)
    all_goals
      go_wp2_with fail
      go_ret
      refine ⟨_, rfl, ?_, fun k hk => ((Vals.of_own HO.out).2 k hk).1, G.out⟩
      rw [HN.out]
      exact (Vals.of_own HO.out).1
end Go.Proofs.YtacekpdjapgfcaaGreatDoor

namespace Go.Q
open Go
def up7 : Nat → Nat → List UInt8
  | 0, _ => []
  | f + 1, n => if n = 0 then [] else UInt8.ofNat (n % 128 + 128) :: up7 f (n / 128)
def base128 (n : Nat) : List UInt8 := (UInt8.ofNat (n % 128) :: up7 5 (n / 128)).reverse
def lim7 : Nat → Nat
  | 0 => 16777216
  | 1 => 131072
  | 2 => 1024
  | 3 => 8
  | _ => 0
theorem lim7_le {m k : Nat} (h : m ≤ lim7 k) : m ≤ 16777216 := by
  match k, h with
  | 0, h => simp only [lim7] at h; omega
  | 1, h => simp only [lim7] at h; omega
  | 2, h => simp only [lim7] at h; omega
  | 3, h => simp only [lim7] at h; omega
  | k + 4, h => simp only [lim7] at h; omega
theorem lim7_step {m k : Nat} (h : m ≤ lim7 k) : m / 128 ≤ lim7 (k + 1) := by
  match k, h with
  | 0, h => simp only [lim7] at h ⊢; omega
  | 1, h => simp only [lim7] at h ⊢; omega
  | 2, h => simp only [lim7] at h ⊢; omega
  | 3, h => simp only [lim7] at h ⊢; omega
  | k + 4, h => simp only [lim7] at h ⊢; omega
end Go.Q
namespace Go.Proofs.YtacekpdjapgfcaaGreatDoor
open Go Go.RowKit Go.Q
theorem and127i (n : Nat) (h : n < 4611686018427387904) : bits .and .i64 (n : Int) 127 = ((n % 128 : Nat) : Int) := by
  have h := (bits_nat .i64 62 (by decide) wraps_i62 n 127 (by omega) (by omega)).1
  rw [nat_mask7] at h
  exact h
set_option maxRecDepth 20000 in
set_option maxHeartbeats 2000000 in
theorem put_any {w : World} {base m : Nat} (n bo : Nat) (v : Value) (xs : List UInt8) (hn : n ≤ 2147483647) (BO : Blk w bo 23 #[v])
    (hown : w.ownsRow base 5 1 v m (Lib.byteCells xs)) (hb : base ≤ w.heap.size) (ho : ∀ k, v.ownBlock = some k → k ≠ bo) (hm : m ≤ 1000) :
    Calls Tryz.prog 273 #[.int .i64 n, pt bo] w fun e w' => e = .returned (.tuple #[]) ∧ ∃ v', Blk w' bo 23 #[v'] ∧ w'.ownsRow base 5 1 v' (m + (base128 n).length) (Lib.byteCells (xs ++ base128 n)) ∧ (∀ k, v'.ownBlock = some k → k ≠ bo) ∧ Fr (fun k => k = bo ∨ v.ownBlock = some k) w w' := by
  have hb1 : bits .and .i64 (n : Int) 127 = ((n % 128 : Nat) : Int) := and127i n (by omega)
  obtain ⟨y, hy⟩ : ∃ y, y = n % 128 := ⟨_, rfl⟩
  rw [← hy] at hb1
  have hyl : y < 128 := by omega
  have hw8 : IntKind.u8.wrap (y : Int) = (y : Int) := by simp [IntKind.wrap, IntKind.signed, IntKind.bits]; omega
  have HY := Lib.hid hy
  have HOW := Lib.hid hown
  have lbo := BO.lt
  have HV := Lib.hid (Vals.of_own hown).2
  clear hown hy
  go_enter Tryz.func273, Tryz.ntmps273
  go_upto_region 1 with fail
  have BX := Blk.new w 5 #[.int .u8 y]
  have F1 : Fr (fun _ => False) w (w.alloc (.cells #[.int .u8 y] 5)) := (Fr.refl w).alloc _
  have e8 := u8 y (by omega)
  have ho1 : (w.alloc (.cells #[.int .u8 y] 5)).ownsRow w.heap.size 5 1 (.slice (some ⟨w.heap.size, 0, none⟩) 1 1) 1 (Lib.byteCells [UInt8.ofNat y]) := by
    have BX' : Blk (w.alloc (.cells #[.int .u8 y] 5)) w.heap.size 5 (Lib.byteCells [UInt8.ofNat y]).toArray := by
      simpa [Lib.byteCells, e8] using BX
    exact own_bytes BX' (by simp) w.heap.size (Nat.le_refl _)
  generalize (w.alloc (.cells #[.int .u8 y] 5)) = w1 at *
  go_wp2_with fail
  go_loopg [0, 3] (n / 128) (fun g nn d wr => ∃ (k q : Nat) (a : Option Addr) (l c : Nat) (ys : List UInt8), g = q ∧ q ≤ lim7 k ∧ k ≤ 4 ∧ ys.length = k + 1 ∧ nn = .int .i64 q ∧ d = .slice a l c ∧ UInt8.ofNat y :: up7 5 (n / 128) = ys ++ up7 (5 - k) q ∧ wr.ownsRow w.heap.size 5 1 (.slice a l c) (k + 1) (Lib.byteCells ys) ∧ Fr (fun _ => False) w wr)
  case atStart => exact ⟨0, n / 128, _, 1, 1, [UInt8.ofNat y], rfl, by simp only [lim7]; omega, by omega, rfl, rfl, rfl, rfl, ho1, F1⟩
  case round =>
    obtain ⟨k, q, a, l, c, ys, hg, hq, hk, hyk, rfl, rfl, hup, hoy, F2⟩ := hrel
    have HG := Lib.hid hg
    have HU := Lib.hid hup
    have HQ := Lib.hid hq
    clear hg hup hq
    by_cases hq0 : q = 0
    · subst hq0
      have hE : base128 n = ys.reverse := by
        have := HU.out
        rw [HY.out] at this
        unfold base128
        rw [this]
        cases 5 - k <;> simp [up7]
      have HE := Lib.hid hE
      have hbl : (base128 n).length = k + 1 := by rw [hE, List.length_reverse, hyk]
      have HBL := Lib.hid hbl
      have hvb := (Vals.of_own hoy).2
      have HRV := Lib.hid (rev_ok wr w.heap.size _ _ ys hoy (by omega))
      clear hE hbl hoy hb1 hw8
      go_wp2_with fail
      refine HRV.out.mono ?_
      rintro e w2 ⟨rfl, ho2, F3⟩
      have G2 := F2.trans' F3 (fun i hi e => absurd hi (by have := (hvb i e).1; omega))
      rw [← HE.out] at ho2
      have hd := (Vals.of_own ho2).1
      have BO2 := BO.fr G2 (fun h => h)
      have hO2 := ownsRow_fr HOW.out G2 (fun _ _ h => h)
      have hll : (Lib.byteCells (base128 n)).length = k + 1 := by rw [byteCells_len]; exact HBL.out
      obtain ⟨ad, cd, hde, -⟩ := hd.form
      rw [HBL.out] at hde
      simp only [Value.slice.injEq] at hde
      obtain ⟨rfl, rfl, rfl⟩ := hde
      obtain ⟨v', w', hrun, ho7, F7, hat⟩ := append_bytes hO2 a (k + 1) c (base128 n) hd (by omega) (Nat.le_trans hb G2.size)
      have HO7 := Lib.hid ho7
      have BO7 := BO2.fr F7 (fun e => ho bo e rfl)
      have HAT := Lib.hid hat
      have e0 := BO2.cell 0
      have e7 := BO7.cell 0
      have f7 := BO7.frozen 0
      simp at e0 e7
      obtain ⟨a7, c7, rfl, -⟩ := (Vals.of_own ho7).1
      have HRUN := Lib.hid hrun
      have HB7 := Lib.hid BO7
      have HG2 := Lib.hid G2
      have HF7 := Lib.hid F7
      have hsz2 := G2.size
      clear ho2 hd BO2 hO2 hll ho7 F7 hat hrun BO7 G2 F3 F2 hvb HRV
      generalize (Lib.byteCells (xs ++ base128 n)).length = L7 at *
      go_wp2_with (at_builtin; refine wpList_append_run (by rfl) (.tmp 23) (.tmp 24) 23 (by rfl) _ w' (by exact HRUN.out) ?_)
      go_end0
      have hne : ∀ b, (Value.slice a7 L7 c7).ownBlock = some b → b ≠ bo := fun b hk => by
        rcases HAT.out with h | h
        · rw [h] at hk
          exact ho b hk
        · rw [h] at hk
          simp only [Option.some.injEq] at hk
          omega
      have FS : Fr (fun b => b = bo) w' (w'.setCell ⟨bo, 0, none⟩ (.slice a7 L7 c7)) := Fr.setCell (S := fun b => b = bo) (p := ⟨bo, 0, none⟩) (Fr.refl w') (fun _ => rfl) _
      refine ⟨rfl, _, HB7.out.set 0 _, ?_, hne, ?_⟩
      · rw [HBL.out]
        exact ownsRow_fr HO7.out FS (fun b hb e => hne b hb e)
      · exact ((HG2.out.mono (T := fun b => b = bo ∨ v.ownBlock = some b) (fun _ _ h => h.elim)).trans (HF7.out.mono (fun _ _ h => .inr h))).trans (FS.mono (fun _ _ h => .inl h))
    · have q1 : (0 : Int) < (q : Int) := by omega
      have hkq : k ≤ 3 := by
        rcases Nat.lt_or_ge 3 k with h | h
        · obtain rfl : k = 4 := by omega
          have := HQ.out
          simp only [lim7] at this
          omega
        · exact h
      have hql : q ≤ 16777216 := lim7_le HQ.out
      obtain ⟨r, hr⟩ : ∃ r, r = q % 128 := ⟨_, rfl⟩
      have hrl : r < 128 := by omega
      have hb2 : bits .and .i64 (q : Int) 127 = (r : Int) := by rw [hr]; exact and127i q (by omega)
      have hm8 : (r : Int) % 256 = (r : Int) := by omega
      obtain ⟨z, hz⟩ : ∃ z, z = r + 128 := ⟨_, rfl⟩
      have hb3 : bits .or .u8 (r : Int) 128 = (z : Int) := by
        have h := u8_or_nat r 128 (by omega) (by omega)
        rw [Nat.or_comm, nat_join 7 128 r (by decide) (by omega)] at h
        rw [hz]
        rw [show r + 128 = 128 + r from by omega]
        exact h
      have hee : bits BinOp.or IntKind.u8 (bits BinOp.and IntKind.i64 (q : Int) 127 % 256) 128 = (z : Int) := by rw [hb2, hm8, hb3]
      have HEE := Lib.hid hee
      clear hee
      have e8 := u8 z (by omega)
      have hsz := F2.size
      have F3 : Fr (fun _ => False) wr (wr.alloc (.cells #[.int .u8 z] 5)) := (Fr.refl wr).alloc _
      have hsrc : Bytes (wr.alloc (.cells #[.int .u8 z] 5)) (.slice (some ⟨wr.heap.size, 0, none⟩) 1 1) [UInt8.ofNat z] := by
        refine ⟨_, 1, rfl, Nat.le_refl _, by unfold maxLen; omega, fun _ => ⟨wr.heap.size, 0, rfl, fun i u hu => ?_⟩⟩
        rw [(Blk.new wr 5 #[.int .u8 z]).cell (0 + i)]
        simpa [Lib.byteCells, e8] using hu
      obtain ⟨v', w', hrun, ho7, F7, _⟩ := append_bytes (ownsRow_fr hoy F3 (fun _ _ h => h)) _ 1 1 [UInt8.ofNat z] hsrc (by omega) (Nat.le_trans hsz F3.size)
      have hvb := (Vals.of_own hoy).2
      have G7 := Lib.hid ((F2.trans F3).trans' F7 (fun i hi e => absurd hi (by have := (hvb i e).1; omega)))
      obtain ⟨a7, c7, rfl, -⟩ := (Vals.of_own ho7).1
      have HO7 := Lib.hid ho7
      have HRUN := Lib.hid hrun
      have HR := Lib.hid hr
      have HZ := Lib.hid hz
      have HB2 := Lib.hid hb2
      have HB3 := Lib.hid hb3
      have HM8 := Lib.hid hm8
      clear hsrc ho7 F7 F3 F2 hoy hvb hrun hr hz hb2 hb3 hm8 hb1 hw8 hsz
      generalize (Lib.byteCells (ys ++ [UInt8.ofNat z])).length = L7 at *
      go_wp2_with (at_builtin; refine wpList_append_run (by rfl) (.tmp 14) (.tmp 19) 23 (by rfl) _ w' (by rw [HEE.out]; exact HRUN.out) ?_)
      go_roundg (q / 128)
      case measure => rw [HG.out]; omega
      case rel =>
        refine ⟨k + 1, q / 128, a7, L7, c7, ys ++ [UInt8.ofNat z], rfl, lim7_step HQ.out, by omega, by rw [List.length_append, hyk]; rfl, rfl, rfl, ?_, HO7.out, G7.out⟩
        rw [HU.out, List.append_assoc]
        congr 1
        rw [show 5 - k = (5 - (k + 1)) + 1 from by omega]
        simp only [up7, if_neg hq0]
        rw [HZ.out, HR.out]
        rfl
end Go.Proofs.YtacekpdjapgfcaaGreatDoor

namespace Go.Q
open Go Go.RowKit
def oidBytes (o : List Int) : List UInt8 := (Go.Proofs.YtacekpdjapgfcaaGreatDoor.numsS o).flatMap fun n => base128 n.toNat
theorem up7_len : ∀ f n, (up7 f n).length ≤ f
  | 0, _ => Nat.le_refl _
  | f + 1, n => by
    simp only [up7]
    split
    · simp
    · simp only [List.length_cons]
      have := up7_len f (n / 128)
      omega
theorem base128_len (n : Nat) : (base128 n).length ≤ 6 ∧ 1 ≤ (base128 n).length := by
  have := up7_len 5 (n / 128)
  simp only [base128, List.length_reverse, List.length_cons]
  omega
theorem flat128_len : ∀ l : List Int, (l.flatMap fun n => base128 n.toNat).length ≤ 6 * l.length
  | [] => by simp
  | n :: l => by
    have h1 := (base128_len n.toNat).1
    have h2 := flat128_len l
    simp only [List.flatMap_cons, List.length_append, List.length_cons]
    omega
end Go.Q
namespace Go.Proofs.YtacekpdjapgfcaaGreatDoor
open Go Go.RowKit Go.Q
theorem nums_ok {o : List Int} (ho : oidOk o = true) : (numsS o).length = o.length - 1 ∧ o.length ≤ 32 ∧ 2 ≤ o.length ∧ ∀ n ∈ numsS o, 0 ≤ n ∧ n ≤ 2147483647 := by
  simp only [oidOk, Bool.and_eq_true, decide_eq_true_eq] at ho
  obtain ⟨⟨⟨hl1, hl2⟩, hall⟩, htwo⟩ := ho
  refine ⟨by simp only [numsS, List.length_cons, List.length_drop]; omega, hl2, hl1, fun n hn => ?_⟩
  simp only [numsS, List.mem_cons] at hn
  rcases hn with rfl | hn
  · have g : ∀ i, i < o.length → arcOk (o.getD i 0) = true := fun i hi => by
      rw [List.getD_eq_getElem?_getD, List.getElem?_eq_getElem hi]
      exact List.all_eq_true.1 hall _ (List.getElem_mem hi)
    have g0 := g 0 (by omega)
    have g1 := g 1 (by omega)
    generalize o.getD 0 0 = a at *
    generalize o.getD 1 0 = b at *
    simp only [arcOk, decide_eq_true_eq] at g0 g1
    simp only [twoOk, Bool.or_eq_true, Bool.and_eq_true, decide_eq_true_eq] at htwo
    omega
  · have := List.all_eq_true.1 hall n (List.mem_of_mem_drop hn)
    simpa [arcOk] using this
set_option maxRecDepth 20000 in
set_option maxHeartbeats 2000000 in
theorem contents_any (v : Value) (o : List Int) (w : World) (h : Ints w v o) (ho : oidOk o = true) :
    Calls Tryz.prog 237 #[v] w fun e w' => ∃ v', e = .returned (.tuple #[v', .int .i64 0]) ∧ w'.ownsRow w.heap.size 5 1 v' (oidBytes o).length (Lib.byteCells (oidBytes o)) ∧ Fr (fun _ => False) w w' := by
  obtain ⟨hnl, hol, hol2, hno⟩ := nums_ok ho
  have hR := oidRight_any v o w h
  rw [ho] at hR
  have HR := Lib.hid hR
  have HH := Lib.hid h
  have HNO := Lib.hid hno
  obtain ⟨bo, hbo⟩ : ∃ bo, bo = w.heap.size := ⟨_, rfl⟩
  have HBO := Lib.hid hbo
  have B0 := Blk.new w 23 #[.slice none 0 0]
  have F0 : Fr (fun _ => False) w (w.alloc (.cells #[.slice none 0 0] 23)) := (Fr.refl w).alloc _
  rw [← hbo] at B0
  clear hR h hno hbo
  go_enter Tryz.func237, Tryz.ntmps237
  go_wp2_with fail
  refine HR.out.mono ?_
  rintro e w' ⟨rfl, rfl⟩
  go_upto_region 4 with fail
  rw [← HBO.out]
  generalize (w.alloc (.cells #[.slice none 0 0] 23)) = w0 at *
  go_wp2_with fail
  refine (numbers_any v o w0 (HH.out.old F0) ho).mono ?_
  rintro e w1 ⟨v1, rfl, hi1, hf1, F1⟩
  obtain ⟨a1, c1, rfl, -⟩ := Ints.form hi1
  have HI1 := Lib.hid hi1
  have hlt0 := B0.lt
  have hbb : ∀ k, (Value.slice a1 (numsS o).length c1).ownBlock = some k → k ≠ bo := fun k hk => by have := hf1 k hk; omega
  have B1 := B0.fr F1 (fun h => h)
  have G1 := F0.trans F1
  obtain ⟨N, hN⟩ : ∃ N, N = numsS o := ⟨_, rfl⟩
  rw [← hN] at hnl HNO HI1 hbb ⊢
  have HN := Lib.hid hN
  clear hi1 B0 F0 F1 hN hf1 hlt0
  go_wp2_with fail
  go_loopg [15] N.length (fun g i wr => ∃ (j k : Nat) (u : Value), g = N.length - j ∧ j ≤ N.length ∧ i = .int .i64 j ∧ k = ((N.take j).flatMap fun n => base128 n.toNat).length ∧ Blk wr bo 23 #[u] ∧ wr.ownsRow w1.heap.size 5 1 u k (Lib.byteCells ((N.take j).flatMap fun n => base128 n.toNat)) ∧ (∀ b, u.ownBlock = some b → b ≠ bo) ∧ Fr (fun k => k = bo) w1 wr)
  case atStart => exact ⟨0, 0, .slice none 0 0, rfl, by omega, rfl, rfl, B1, ⟨rfl, .inl ⟨rfl, rfl⟩⟩, by simp [Value.ownBlock], Fr.refl _⟩
  case round =>
    obtain ⟨j, k, u, hg, hj, rfl, hk, B2, ho2, hne, F2⟩ := hrel
    have HG := Lib.hid hg
    have HK := Lib.hid hk
    clear hg hk
    by_cases hjl : j < N.length
    · obtain ⟨a', cap', he, _, _, hx⟩ := Ints.form HI1.out
      simp only [Value.slice.injEq, true_and] at he
      obtain ⟨rfl, rfl⟩ := he
      obtain ⟨b, off, rfl, hy⟩ := hx (by omega)
      obtain ⟨x, hxj⟩ : ∃ x, N[j]? = some x := ⟨_, List.getElem?_eq_getElem hjl⟩
      have ex := F2.cell (hy j x hxj) (hbb b rfl)
      have hx0 := HNO.out x (List.mem_of_getElem? hxj)
      obtain ⟨y, hyx⟩ : ∃ y : Nat, x = (y : Int) := ⟨x.toNat, by omega⟩
      subst hyx
      have hft : ((N.take (j + 1)).flatMap fun n => base128 n.toNat) = ((N.take j).flatMap fun n => base128 n.toNat) ++ base128 y := by
        rw [List.take_add_one, hxj]
        simp
      have hkl := flat128_len (N.take j)
      have hbl := (base128_len y).1
      rw [← HK.out, List.length_take] at hkl
      have hu := (Vals.of_own ho2).2
      have HP := Lib.hid (put_any y bo u _ (by omega) B2 ho2 F2.size hne (by omega))
      have HFT := Lib.hid hft
      have q1 : (0 : Int) ≤ (j : Int) := by omega
      have q2 : (j : Int) < (N.length : Int) := by omega
      clear hx hy hxj hx0 hft ho2 B2 hne hkl
      go_wp2_with fail
      refine HP.out.mono ?_
      rintro e w3 ⟨rfl, u3, B3, ho3, hne3, F3⟩
      have G3 := F2.trans' F3 (fun i hi e => by
        rcases e with e | e
        · exact e
        · exact absurd hi (by have := (hu i e).1; omega))
      rw [← HFT.out] at ho3
      have HO3 := Lib.hid ho3
      have HB3 := Lib.hid B3
      clear ho3 B3 F3 F2 HP
      go_wp2_with fail
      go_roundg (N.length - (j + 1))
      case measure => rw [HG.out]; omega
      case rel => exact ⟨j + 1, _, u3, rfl, by omega, by go_num, by rw [HFT.out, List.length_append, ← HK.out], HB3.out, HO3.out, hne3, G3⟩
    · have hall : (N.take j) = N := List.take_of_length_le (by omega)
      have hk2 := HK.out
      rw [hall] at ho2 hk2
      have e0 := B2.cell 0
      simp at e0
      have hE : oidBytes o = N.flatMap fun n => base128 n.toNat := by rw [HN.out]; rfl
      have HE := Lib.hid hE
      have HO2 := Lib.hid ho2
      have HK2 := Lib.hid hk2
      have HGG := Lib.hid (G1.trans' F2 (fun i hi e => absurd hi (by rw [e, HBO.out]; exact Nat.lt_irrefl _)))
      have hs1 := G1.size
      clear ho2 hk2 hall B2 F2 hE HI1 G1 B1
      go_wp2_with fail
      refine bodyPost_ret (v := .tuple #[u, .int .i64 0]) (by simp [results, Tryz.results237, go_sem]) rfl ⟨_, rfl, ?_, HGG.out⟩
      have h1 := own_le HO2.out hs1
      rw [HE.out, ← HK2.out]
      exact h1
end Go.Proofs.YtacekpdjapgfcaaGreatDoor

namespace Go.Q
open Go Go.RowKit
def oidWhole (o : List Int) : List UInt8 := wrapS (tagOf 6) (oidBytes o)
theorem good_of {n : Int} (h0 : 0 ≤ n) (h1 : n < 31) : tagGood (tagOf n) := ⟨⟨by simp [tagOf], by simp [tagOf]⟩, h0, h1⟩
theorem oidBytes_len {o : List Int} (h : o.length ≤ 32) : (oidBytes o).length ≤ 200 := by
  have := flat128_len (Go.Proofs.YtacekpdjapgfcaaGreatDoor.numsS o)
  have h2 : (Go.Proofs.YtacekpdjapgfcaaGreatDoor.numsS o).length ≤ 33 := by simp only [Go.Proofs.YtacekpdjapgfcaaGreatDoor.numsS, List.length_cons, List.length_drop]; omega
  unfold oidBytes
  omega
end Go.Q
namespace Go.Proofs.YtacekpdjapgfcaaGreatDoor
open Go Go.RowKit Go.Q
set_option maxRecDepth 20000 in
set_option maxHeartbeats 1000000 in
theorem oidWrite_any (v : Value) (o : List Int) (w : World) (h : Ints w v o) (ho : oidOk o = true) :
    Calls Tryz.prog 186 #[v] w fun e w' => ∃ v', e = .returned (.tuple #[v', .int .i64 0]) ∧ w'.ownsRow w.heap.size 5 1 v' (oidWhole o).length (Lib.byteCells (oidWhole o)) ∧ Fr (fun _ => False) w w' := by
  have HC := Lib.hid (contents_any v o w h ho)
  have hol := oidBytes_len (nums_ok ho).2.1
  clear h
  go_enter Tryz.func186, Tryz.ntmps186
  go_wp2_with fail
  refine HC.out.mono ?_
  rintro e w1 ⟨v1, rfl, ho1, F1⟩
  obtain ⟨a1, c1, rfl, -⟩ := (Vals.of_own ho1).1.form
  have HB := Lib.hid (Vals.of_own ho1).1
  clear ho1
  go_wp2_with fail
  refine (headOf_any 6 w1).mono ?_
  rintro e w2 ⟨rfl, F2⟩
  have BP := Blk.new w2 23 #[.slice a1 (oidBytes o).length c1]
  have F3 : Fr (fun _ => False) w2 (w2.alloc (.cells #[.slice a1 (oidBytes o).length c1] 23)) := (Fr.refl w2).alloc _
  have G3 := (F1.trans F2).trans F3
  have hp : Parts (w2.alloc (.cells #[.slice a1 (oidBytes o).length c1] 23)) (.slice (some ⟨w2.heap.size, 0, none⟩) 1 1) [oidBytes o] := by
    refine ⟨[.slice a1 (oidBytes o).length c1], Vals.of_block BP (by unfold maxLen; simp), rfl, fun i u l hu hl => ?_⟩
    cases i with
    | zero =>
      simp only [List.getElem?_cons_zero, Option.some.injEq] at hu hl
      subst hu; subst hl
      exact (HB.out.old F2).old F3
    | succ i => simp at hu
  have hW := wrap_any (tagOf 6) (good_of (by omega) (by omega)) _ [oidBytes o] _ hp (by simp; omega) (by simp)
  simp only [List.flatten_cons, List.flatten_nil, List.append_nil] at hW
  have HW := Lib.hid hW
  have HG := Lib.hid G3
  clear hp hW BP F3 G3 F1 F2
  rw [show tagV (tagOf 6) = .agg #[.int .i64 0, .int .i64 6, .bool false] from rfl] at HW ⊢
  go_wp2_with fail
  refine HW.out.mono ?_
  rintro e w4 ⟨v4, rfl, ho4, F4⟩
  have HO4 := Lib.hid (own_le ho4 HG.out.size)
  have HG4 := Lib.hid (HG.out.trans F4)
  clear ho4 F4 HW HG
  go_wp2_with fail
  exact bodyPost_ret (v := .tuple #[v4, .int .i64 0]) (by simp [results, Tryz.results186, go_sem]) rfl ⟨_, rfl, HO4.out, HG4.out⟩
set_option maxRecDepth 20000 in
theorem sequence_any (v : Value) (ls : List (List UInt8)) (w : World) (hp : Parts w v ls) (hl : ls.flatten.length ≤ 16777216) (hn : ls.length ≤ 1000) :
    Calls Tryz.prog 100 #[v] w fun e w' => ∃ v', e = .returned (.tuple #[v', .int .i64 0]) ∧ w'.ownsRow w.heap.size 5 1 v' (wrapS (tagOf 16) ls.flatten).length (Lib.byteCells (wrapS (tagOf 16) ls.flatten)) ∧ Fr (fun _ => False) w w' := by
  have HP := Lib.hid hp
  clear hp
  go_enter Tryz.func100, Tryz.ntmps100
  go_wp2_with fail
  refine (headOf_any 16 w).mono ?_
  rintro e w2 ⟨rfl, F2⟩
  have HW := Lib.hid (wrap_any (tagOf 16) (good_of (by omega) (by omega)) v ls w2 (HP.out.old F2) hl hn)
  rw [show tagV (tagOf 16) = .agg #[.int .i64 0, .int .i64 16, .bool true] from rfl] at HW ⊢
  go_wp2_with fail
  refine HW.out.mono ?_
  rintro e w4 ⟨v4, rfl, ho4, F4⟩
  have HO4 := Lib.hid (own_le ho4 F2.size)
  have HG4 := Lib.hid (F2.trans F4)
  clear ho4 F4 HW F2
  go_wp2_with fail
  exact bodyPost_ret (v := .tuple #[v4, .int .i64 0]) (by simp [results, Tryz.results100, go_sem]) rfl ⟨_, rfl, HO4.out, HG4.out⟩
end Go.Proofs.YtacekpdjapgfcaaGreatDoor

namespace Go.Proofs.YtacekpdjapgfcaaGreatDoor
open Go Go.RowKit Go.Q
theorem oneS_err {l : List UInt8} {e : Int} (h : readS l = .error e) : oneS l = .error e := by
  unfold oneS
  simp only [h]
theorem oneS_short {l : List UInt8} {t : Tag} {n k : Nat} (h : readS l = .ok (t, n, k)) (hs : l.length - k < n) : oneS l = .error 3 := by
  unfold oneS
  simp only [h]
  rw [if_pos hs]
theorem oneS_ok {l : List UInt8} {t : Tag} {n k : Nat} (h : readS l = .ok (t, n, k)) (hs : ¬ l.length - k < n) : oneS l = .ok (t, k, k + n) := by
  unfold oneS
  simp only [h]
  rw [if_neg hs]
def oneOut (w w' : World) (c : Nat) (K : Nat → Prop) (bs : List UInt8) (p : Nat) (e : Ending) : Prop :=
  match oneS (bs.drop p) with
  | .error x => ∃ v t u, e = .returned (.tuple #[v, tagV t, u, .int .i64 x]) ∧ CurAt w' c K bs p
  | .ok (t, _, n) => ∃ v u, e = .returned (.tuple #[v, tagV t, u, .int .i64 0]) ∧ w'.ownsRow w.heap.size 5 1 v n (Lib.byteCells ((bs.drop p).take n)) ∧ CurAt w' c K bs (p + n)
set_option maxRecDepth 20000 in
set_option maxHeartbeats 2000000 in
theorem one_any {w : World} {c : Nat} {K : Nat → Prop} {bs : List UInt8} {p : Nat} (h : CurAt w c K bs p) :
    Calls Tryz.prog 190 #[pt c] w fun e w' => oneOut w w' c K bs p e ∧ Fr (fun k => k = c) w w' := by
  have hlc := h.lt
  have hle := h.le
  have hsm := h.small
  obtain ⟨z, hz⟩ : ∃ z, z = w.heap.size := ⟨_, rfl⟩
  have BZ := Blk.new w 97 #[.int .i64 0, .int .i64 0, .bool false]
  have F0 : Fr (fun _ => False) w (w.alloc (.cells #[.int .i64 0, .int .i64 0, .bool false] 97)) := (Fr.refl w).alloc _
  have H := Lib.hid (h.step (K' := fun k => K k ∨ w.heap.size ≤ k) F0 (fun _ _ h => h.elim) (fun _ h => h))
  rw [← hz] at BZ
  have hzc : z ≠ c := by omega
  have hzw : ∀ k, k < w.heap.size → k = z → k = c := fun k hk e => by omega
  have HZ := Lib.hid hz
  clear h hz
  go_enter Tryz.func190, Tryz.ntmps190
  go_upto_region 1 with fail
  rw [← HZ.out]
  generalize (w.alloc (.cells #[.int .i64 0, .int .i64 0, .bool false] 97)) = w0 at *
  go_wp2_with fail
  refine (at_any H.out).mono ?_
  rintro e w' ⟨rfl, rfl⟩
  go_wp2_with fail
  refine (headRead_any H.out).mono ?_
  rintro e w1 ⟨⟨t, n, x, rfl, ht⟩, C1, F1⟩
  obtain ⟨tc, tn, tm⟩ := t
  rw [show tagV ⟨tc, tn, tm⟩ = .agg #[.int .i64 tc, .int .i64 tn, .bool tm] from rfl]
  have HT := Lib.hid ht
  replace BZ := BZ.fr F1 hzc
  have hzl := BZ.lt
  have hcl := C1.lt
  go_upto_region 3 with fail
  obtain ⟨d, hd⟩ : ∃ d, d = w1.heap.size := ⟨_, rfl⟩
  have BD := Blk.new w1 97 #[.int .i64 tc, .int .i64 tn, .bool tm]
  have F2 : Fr (fun _ => False) w1 (w1.alloc (.cells #[.int .i64 tc, .int .i64 tn, .bool tm] 97)) := (Fr.refl w1).alloc _
  replace BZ := BZ.fr F2 (fun h => h)
  have HC2 := Lib.hid (C1.old F2)
  have HG2 := Lib.hid (((F0.mono (T := fun k => k = c) (fun _ _ h => h.elim)).trans F1).trans (F2.mono (fun _ _ h => h.elim)))
  rw [← hd] at BD ⊢
  have hdz : d ≠ z := by omega
  have hdc : d ≠ c := by omega
  clear hd F2 F1 C1 F0 H ht hzl hcl
  generalize (w1.alloc (.cells #[.int .i64 tc, .int .i64 tn, .bool tm] 97)) = w2 at *
  have SZ := BZ.cell
  have ZZ := BZ.frozen
  have SD := BD.cell
  by_cases hx : x = 0
  · subst hx
    have hok : ∃ k, readS (bs.drop p) = .ok (⟨tc, tn, tm⟩, n, k) := by
      have ht := HT.out
      cases hr : readS (bs.drop p) with
      | error e => rw [hr] at ht; exact absurd ht.symm (readS_err hr)
      | ok vk => obtain ⟨v, m, k⟩ := vk; rw [hr] at ht; exact ⟨k, by rw [ht.1, ht.2.1]⟩
    obtain ⟨k, hk⟩ := hok
    have hc2 := HC2.out
    rw [hk] at hc2
    have hpk : p + k ≤ bs.length := hc2.le
    have HC3 := Lib.hid (show CurAt w2 c (fun k => K k ∨ w.heap.size ≤ k) bs (p + k) from hc2)
    have hdl : (bs.drop p).length = bs.length - p := List.length_drop ..
    have hw1 : IntKind.i64.wrap ((p + k : Nat) - (p : Int)) = (k : Int) := by simp [IntKind.wrap, IntKind.signed, IntKind.bits]; omega
    clear HC2 hc2
    go_wp2_with fail
    refine (at_any HC3.out).mono ?_
    rintro e w' ⟨rfl, rfl⟩
    go_wp2_with fail
    refine (left_any HC3.out).mono ?_
    rintro e w3 ⟨rfl, F3⟩
    replace BZ := BZ.fr F3 (fun h => h)
    replace BD := BD.fr F3 (fun h => h)
    have HC4 := Lib.hid (HC3.out.old F3)
    have HG4 := Lib.hid (HG2.out.trans (F3.mono (fun _ _ h => h.elim)))
    clear F3 HG2 HC3
    by_cases hs : bs.length - (p + k) < n
    · have HE := Lib.hid (oneS_short hk (by rw [hdl]; omega))
      have q1 : ((bs.length - (p + k) : Nat) : Int) < (n : Int) := by omega
      clear hk SZ ZZ SD
      go_wp2_with fail
      refine (back_any HC4.out p (by omega)).mono ?_
      rintro e w4 ⟨rfl, C4, F4⟩
      replace BZ := BZ.fr F4 hzc
      replace BD := BD.fr F4 hdc
      have SZ := BZ.cell
      have ZZ := BZ.frozen
      have SD := BD.cell
      have HC5 := Lib.hid C4
      have HG5 := Lib.hid (HG4.out.trans F4)
      clear C4 F4 HC4 HG4
      go_upto_region 8 with fail
      go_region
      all_goals
        go_wp2_with fail
        obtain ⟨B5, F5⟩ := set3 BZ (.int .i64 tc) (.int .i64 tn) (.bool tm)
        have C5 := HC5.out.step (K' := K) F5 (fun k _ e => .inr (by rw [e, HZ.out]; exact Nat.le_refl _)) (fun _ h => .inl (.inl h))
        have G5 := HG5.out.trans' F5 hzw
        generalize (((w4.setCell ⟨z, 0, none⟩ (.int .i64 tc)).setCell ⟨z, 1, none⟩ (.int .i64 tn)).setCell ⟨z, 2, none⟩ (.bool tm)) = w5 at *
        have n0 := B5.cell 0
        have n1 := B5.cell 1
        have n2 := B5.cell 2
        simp at n0 n1 n2
        refine bodyPost_ret (v := .tuple #[.slice none 0 0, .agg #[.int .i64 tc, .int .i64 tn, .bool tm], .slice none 0 0, .int .i64 3]) (by simp [results, Tryz.results190, go_sem, n0, n1, n2]) rfl ⟨?_, G5.drew⟩
        unfold oneOut
        rw [HE.out]
        exact ⟨_, ⟨tc, tn, tm⟩, _, rfl, C5.old (Fr.refl w5).drew⟩
    · have HE := Lib.hid (oneS_ok hk (by rw [hdl]; omega))
      have q1 : ¬ ((bs.length - (p + k) : Nat) : Int) < (n : Int) := by omega
      have hw2 : IntKind.i64.wrap ((k : Int) + (n : Int)) = ((k + n : Nat) : Int) := by simp [IntKind.wrap, IntKind.signed, IntKind.bits]; omega
      clear hk SZ ZZ SD
      go_wp2_with fail
      refine (back_any HC4.out p (by omega)).mono ?_
      rintro e w4 ⟨rfl, C4, F4⟩
      replace BZ := BZ.fr F4 hzc
      replace BD := BD.fr F4 hdc
      have HC5 := Lib.hid C4
      have HG5 := Lib.hid (HG4.out.trans F4)
      clear C4 F4 HC4 HG4
      have HTK := Lib.hid (take_ok HC5.out (k + n) (by omega))
      rw [Int.natCast_add] at HTK hw2
      go_wp2_with fail
      rw [show ((p : Int) + (k : Int) - (p : Int)) = (k : Int) from by omega]
      refine HTK.out.mono ?_
      rintro e w5 ⟨v5, rfl, ho5, C5, F5⟩
      have hzl5 := BZ.lt
      replace BZ := BZ.fr F5 hzc
      replace BD := BD.fr F5 hdc
      have HO5 := Lib.hid ho5
      have HC6 := Lib.hid C5
      have HG6 := Lib.hid (HG5.out.trans F5)
      have hown := Lib.hid (Vals.of_own ho5)
      obtain ⟨a5, c5, he5, hc5, hm5, -⟩ := (Vals.of_own ho5).1.form
      have hlen : ((bs.drop p).take (k + n)).length = k + n := by rw [List.length_take, List.length_drop]; omega
      rw [hlen] at he5 hc5
      subst he5
      have SZ := BZ.cell
      have ZZ := BZ.frozen
      have SD := BD.cell
      have z1 : (k : Int) ≤ (k : Int) + (n : Int) := by omega
      have z2 : (k : Int) + (n : Int) ≤ (c5 : Int) := by omega
      have z3 : (0 : Int) ≤ (k : Int) := by omega
      have z4 : k ≤ k + n := by omega
      have z5 : k + n ≤ c5 := by omega
      have hb4 : w.heap.size ≤ w4.heap.size := HG5.out.size
      clear ho5 C5 F5 HC5 HG5 HTK hw1 hw2 hlen
      go_upto_region 11 with fail
      by_cases hn0 : n = 0
      · subst hn0
        have z6 : k + 0 = k := rfl
        go_region
        all_goals
          go_wp2_with fail
          obtain ⟨B7, F7⟩ := set3 BZ (.int .i64 tc) (.int .i64 tn) (.bool tm)
          have C7 := HC6.out.step (K' := K) F7 (fun k _ e => .inr (by rw [e, HZ.out]; exact Nat.le_refl _)) (fun _ h => .inl (.inl h))
          have G7 := HG6.out.trans' F7 hzw
          have hne : ∀ b, (Value.slice a5 (k + 0) c5).ownBlock = some b → b ≠ z := fun b hb e => by
            have h1 := (hown.out.2 b hb).1
            omega
          have O7 := ownsRow_fr HO5.out F7 hne
          have O8 := own_le O7 hb4
          generalize (((w5.setCell ⟨z, 0, none⟩ (.int .i64 tc)).setCell ⟨z, 1, none⟩ (.int .i64 tn)).setCell ⟨z, 2, none⟩ (.bool tm)) = w7 at *
          have n0 := B7.cell 0
          have n1 := B7.cell 1
          have n2 := B7.cell 2
          simp at n0 n1 n2
          refine bodyPost_ret (v := .tuple #[.slice a5 (k + 0) c5, .agg #[.int .i64 tc, .int .i64 tn, .bool tm], .slice a5 0 0, .int .i64 0]) (by simp [results, Tryz.results190, go_sem, n0, n1, n2]) rfl ⟨?_, G7.drew⟩
          unfold oneOut
          rw [HE.out]
          exact ⟨_, _, rfl, ownsRow_fr O8 (Fr.refl (S := fun _ => False) w7).drew (fun _ _ h => h), C7.old (Fr.refl w7).drew⟩
      · go_region
        all_goals
          go_wp2_with fail
          obtain ⟨B7, F7⟩ := set3 BZ (.int .i64 tc) (.int .i64 tn) (.bool tm)
          have C7 := HC6.out.step (K' := K) F7 (fun k _ e => .inr (by rw [e, HZ.out]; exact Nat.le_refl _)) (fun _ h => .inl (.inl h))
          have G7 := HG6.out.trans' F7 hzw
          have hne : ∀ b, (Value.slice a5 (k + n) c5).ownBlock = some b → b ≠ z := fun b hb e => by
            have h1 := (hown.out.2 b hb).1
            omega
          have O7 := ownsRow_fr HO5.out F7 hne
          have O8 := own_le O7 hb4
          generalize (((w5.setCell ⟨z, 0, none⟩ (.int .i64 tc)).setCell ⟨z, 1, none⟩ (.int .i64 tn)).setCell ⟨z, 2, none⟩ (.bool tm)) = w7 at *
          have n0 := B7.cell 0
          have n1 := B7.cell 1
          have n2 := B7.cell 2
          simp at n0 n1 n2
          refine bodyPost_ret (v := .tuple #[.slice a5 (k + n) c5, .agg #[.int .i64 tc, .int .i64 tn, .bool tm], .slice (Option.map (fun x => x.add k) a5) (k + n - k) (k + n - k), .int .i64 0]) (by simp [results, Tryz.results190, go_sem, n0, n1, n2]) rfl ⟨?_, G7.drew⟩
          unfold oneOut
          rw [HE.out]
          exact ⟨_, _, rfl, ownsRow_fr O8 (Fr.refl (S := fun _ => False) w7).drew (fun _ _ h => h), C7.old (Fr.refl w7).drew⟩
  · have hx1 : (x == 0) = false := beq_eq_false_iff_ne.2 hx
    have herr : readS (bs.drop p) = .error x := by
      have ht := HT.out
      cases hr : readS (bs.drop p) with
      | error e => rw [hr] at ht; rw [show x = e from ht]
      | ok vk => obtain ⟨v, m, k⟩ := vk; rw [hr] at ht; exact absurd ht.2.2 hx
    have hc2 := HC2.out
    rw [herr] at hc2
    have HC3 := Lib.hid hc2
    have HE := Lib.hid (oneS_err herr)
    clear herr HC2 hc2
    go_upto_region 4 with fail
    go_region
    all_goals
      go_wp2_with fail
      obtain ⟨B5, F5⟩ := set3 BZ (.int .i64 tc) (.int .i64 tn) (.bool tm)
      have C5 := HC3.out.step (K' := K) F5 (fun k _ e => .inr (by rw [e, HZ.out]; exact Nat.le_refl _)) (fun _ h => .inl (.inl h))
      have G5 := HG2.out.trans' F5 hzw
      generalize (((w2.setCell ⟨z, 0, none⟩ (.int .i64 tc)).setCell ⟨z, 1, none⟩ (.int .i64 tn)).setCell ⟨z, 2, none⟩ (.bool tm)) = w5 at *
      have n0 := B5.cell 0
      have n1 := B5.cell 1
      have n2 := B5.cell 2
      simp at n0 n1 n2
      refine bodyPost_ret (v := .tuple #[.slice none 0 0, .agg #[.int .i64 tc, .int .i64 tn, .bool tm], .slice none 0 0, .int .i64 x]) (by simp [results, Tryz.results190, go_sem, n0, n1, n2]) rfl ⟨?_, G5.drew⟩
      unfold oneOut
      rw [HE.out]
      exact ⟨_, ⟨tc, tn, tm⟩, _, rfl, C5.old (Fr.refl w5).drew⟩
end Go.Proofs.YtacekpdjapgfcaaGreatDoor

namespace Go.Q
open Go
theorem numS_pos : ∀ {l : List UInt8} {i n v k : Nat}, numS i n l = .ok (v, k) → 1 ≤ k ∧ k ≤ i + l.length
  | [], _, _, _, _, h => by simp [numS] at h
  | x :: t, i, n, v, k, h => by
    simp only [numS] at h
    split at h
    · cases h
    split at h
    · split at h
      · cases h
      · simp only [Except.ok.injEq, Prod.mk.injEq] at h
        simp only [List.length_cons]
        omega
    · have := numS_pos h
      simp only [List.length_cons]
      omega
theorem readTag_pos {l : List UInt8} {t : Tag} {k : Nat} (h : readTagS l = .ok (t, k)) : 1 ≤ k := by
  cases l with
  | nil => simp [readTagS] at h
  | cons x r =>
    simp only [readTagS] at h
    split at h
    · simp only [Except.ok.injEq, Prod.mk.injEq] at h
      omega
    · split at h
      · cases h
      · simp only [Except.ok.injEq, Prod.mk.injEq] at h
        omega
theorem readS_pos {l : List UInt8} {t : Tag} {n k : Nat} (h : readS l = .ok (t, n, k)) : 1 ≤ k := by
  unfold readS at h
  split at h
  · cases h
  · rename_i t' k' he
    have := readTag_pos he
    split at h
    · cases h
    · simp only [Except.ok.injEq, Prod.mk.injEq] at h
      omega
theorem oneS_pos {l : List UInt8} {t : Tag} {k n : Nat} (h : oneS l = .ok (t, k, n)) : 1 ≤ n := by
  unfold oneS at h
  split at h
  · cases h
  · rename_i u m k' he
    have := readS_pos he
    split at h
    · cases h
    · simp only [Except.ok.injEq, Prod.mk.injEq] at h
      omega
theorem wholes_fuel : ∀ (f g : Nat) (l : List UInt8), l.length ≤ f → l.length ≤ g → wholesS f l = wholesS g l := by
  intro f
  induction f with
  | zero =>
    intro g l h _
    obtain rfl : l = [] := List.length_eq_zero_iff.1 (by omega)
    rw [wholes_nil, wholes_nil]
  | succ f ih =>
    intro g l h h2
    cases l with
    | nil => rw [wholes_nil, wholes_nil]
    | cons x t =>
      simp only [List.length_cons] at h h2
      obtain ⟨g, rfl⟩ : ∃ g', g = g' + 1 := ⟨g - 1, by omega⟩
      simp only [wholesS]
      cases ho : oneS (x :: t) with
      | error e => rfl
      | ok v =>
        obtain ⟨u, k, n⟩ := v
        have hp := oneS_pos ho
        have hl : ((x :: t).drop n).length ≤ t.length := by simp only [List.length_drop, List.length_cons]; omega
        simp only
        rw [ih g _ (by omega) (by omega)]
def allS (l : List UInt8) : Except Int (List (List UInt8)) := wholesS l.length l
theorem allS_nil : allS [] = .ok [] := rfl
theorem allS_err {l : List UInt8} {e : Int} (h0 : l ≠ []) (h : oneS l = .error e) : allS l = .error e := by
  cases l with
  | nil => exact absurd rfl h0
  | cons x t => simp only [allS, List.length_cons, wholesS, h]
theorem allS_ok {l : List UInt8} {t : Tag} {k n : Nat} (h0 : l ≠ []) (h : oneS l = .ok (t, k, n)) : allS l = match allS (l.drop n) with | .error e => .error e | .ok r => .ok (l.take n :: r) := by
  cases l with
  | nil => exact absurd rfl h0
  | cons x s =>
    have hp := oneS_pos h
    simp only [allS, List.length_cons, wholesS, h]
    rw [wholes_fuel s.length ((x :: s).drop n).length _ (by simp only [List.length_drop, List.length_cons]; omega) (Nat.le_refl _)]
    all_goals (cases wholesS ((x :: s).drop n).length ((x :: s).drop n) <;> rfl)
end Go.Q

namespace Go.Proofs.YtacekpdjapgfcaaGreatDoor
open Go Go.RowKit Go.Q
theorem info23 : (Tryz.prog.info? 23).map (fun i => (i.zero, i.size, i.bytes)) = some (some (.slice none 0 0), 1, 24) := by kernel_rfl
theorem append_one {w : World} {base n : Nat} {v : Value} {xs : List Value} (hown : w.ownsRow base 23 1 v n xs) (g : Nat) (u : Value) (B : Blk w g 23 #[u]) (h1 : u.oneCell' = true) (hsz : n ≤ 2000000000000) (hb : base ≤ w.heap.size) :
    ∃ v' w', (Builtin.append_ #[136, 136] 136 #[v, .slice (some ⟨g, 0, none⟩) 1 1]).run Tryz.prog w = .ok v' w' ∧ w'.ownsRow base 23 1 v' (n + 1) (xs ++ [u]) ∧ Fr (fun k => v.ownBlock = some k) w w' ∧ (v'.ownBlock = v.ownBlock ∨ v'.ownBlock = some w.heap.size) := by
  obtain ⟨i0, hi0, hz0, hz1, hz2⟩ := info_parts info23
  obtain ⟨v', w', hr, h1, h2, _, h3⟩ := run_append_own_at (P := Tryz.prog) w base 136 136 23 i0 _ 1 24 Tryz.underlying136 hi0 hz0 hz1 hz2 rfl (by decide) v n xs hown ⟨g, 0, none⟩ 1 1 [u] rfl (fun j x hx => by
    rw [show (⟨g, 0, none⟩ : Addr).add j = ⟨g, 0 + j, none⟩ from by unfold Addr.add; split <;> simp_all, B.cell, Nat.zero_add]
    simpa using hx) (by intro x hx; simp at hx; subst hx; exact h1) (by unfold maxLen; omega) (by omega) hb
  exact ⟨v', w', hr, h1, Fr.of_grown h2, h3⟩
def wholesOut (r : Except Int (List (List UInt8))) (e : Ending) : Prop :=
  match r with
  | .ok ls => ∃ a cap, e = .returned (.tuple #[.slice a ls.length cap, .int .i64 0])
  | .error x => e = .returned (.tuple #[.slice none 0 0, .int .i64 x])
theorem oneS_nz {l : List UInt8} {e : Int} (h : oneS l = .error e) : e ≠ 0 := by
  unfold oneS at h
  split at h
  · rename_i e' he
    cases h
    exact readS_err he
  · split at h
    · cases h; decide
    · cases h
set_option maxRecDepth 20000 in
set_option maxHeartbeats 2000000 in
theorem wholes_any {w : World} {c : Nat} {K : Nat → Prop} {bs : List UInt8} {p : Nat} (h : CurAt w c K bs p) :
    Calls Tryz.prog 149 #[pt c] w fun e w' => wholesOut (allS (bs.drop p)) e ∧ Fr (fun k => k = c) w w' := by
  have H := Lib.hid (h.step (K' := fun k => K k ∨ w.heap.size ≤ k) (Fr.refl (S := fun _ => False) w) (fun _ _ h => h.elim) (fun _ h => h))
  have hlc := h.lt
  have hsm := h.small
  have hle := h.le
  clear h
  go_enter Tryz.func149, Tryz.ntmps149
  go_wp2_with fail
  refine (at_any H.out).mono ?_
  rintro e w' ⟨rfl, rfl⟩
  go_wp2_with fail
  go_loopg [5] (bs.length - p) (fun g l wr => ∃ (q : Nat) (a : Option Addr) (m cap : Nat) (xs : List Value), g = bs.length - q ∧ p ≤ q ∧ q ≤ bs.length ∧ m ≤ q ∧ l = .slice a m cap ∧ CurAt wr c (fun k => K k ∨ w.heap.size ≤ k) bs q ∧ wr.ownsRow w.heap.size 23 1 (.slice a m cap) m xs ∧ Fr (fun k => k = c) w wr ∧ (∀ e, allS (bs.drop q) = .error e → allS (bs.drop p) = .error e) ∧ (∀ ls, allS (bs.drop q) = .ok ls → ∃ ls', allS (bs.drop p) = .ok ls' ∧ ls'.length = m + ls.length))
  case atStart => exact ⟨p, none, 0, 0, [], rfl, Nat.le_refl _, hle, by omega, rfl, H.out, ⟨rfl, .inl ⟨rfl, rfl⟩⟩, Fr.refl _, fun e h => h, fun ls h => ⟨ls, h, by omega⟩⟩
  case round =>
    obtain ⟨q, a, m, cap, xs, hg, hpq, hqb, hmq, rfl, hC, ho, hF, hE, hO⟩ := hrel
    have HG := Lib.hid hg
    have HE := Lib.hid hE
    have HO := Lib.hid hO
    have HC := Lib.hid hC
    have HOW := Lib.hid ho
    have hv := Lib.hid (Vals.of_own ho).2
    clear hg hE hO hC ho
    go_wp2_with fail
    refine (left_any HC.out).mono ?_
    rintro e w1 ⟨rfl, F1⟩
    have HC1 := Lib.hid (HC.out.old F1)
    have HOW1 := Lib.hid (ownsRow_fr HOW.out F1 (fun _ _ h => h))
    have HF1 := Lib.hid (hF.trans (F1.mono (fun _ _ h => h.elim)))
    have hs1 := F1.size
    clear HC HOW F1
    by_cases hq : q < bs.length
    · have q1 : (0 : Int) < ((bs.length - q : Nat) : Int) := by omega
      have hne : bs.drop q ≠ [] := fun e => by have := drop_nil e; omega
      have HNE := Lib.hid hne
      clear hne
      go_wp2_with fail
      refine (one_any HC1.out).mono ?_
      rintro e w2 ⟨hout, F2⟩
      unfold oneOut at hout
      cases hr : oneS (bs.drop q) with
      | error x =>
        rw [hr] at hout
        obtain ⟨u, ⟨tc, tn, tm⟩, u2, rfl, C2⟩ := hout
        rw [show tagV ⟨tc, tn, tm⟩ = .agg #[.int .i64 tc, .int .i64 tn, .bool tm] from rfl]
        have hA := Lib.hid (HE.out x (allS_err HNE.out hr))
        have hx1 : (x == 0) = false := beq_eq_false_iff_ne.2 (oneS_nz hr)
        have F3 : Fr (fun _ => False) w2 (w2.alloc (.cells #[.int .i64 tc, .int .i64 tn, .bool tm] 97)) := (Fr.refl w2).alloc _
        have HC3 := Lib.hid (C2.old F3)
        have HF3 := Lib.hid ((HF1.out.trans F2).trans (F3.mono (fun _ _ h => h.elim)))
        clear hr C2 F2 F3
        go_wp2_with fail
        refine (back_any HC3.out p hpq).mono ?_
        rintro e w4 ⟨rfl, C4, F4⟩
        go_wp2_with fail
        refine bodyPost_ret (v := .tuple #[.slice none 0 0, .int .i64 x]) (by simp [results, Tryz.results149, go_sem]) rfl ⟨?_, HF3.out.trans F4⟩
        rw [hA.out]
        rfl
      | ok tkn =>
        obtain ⟨t, k, n⟩ := tkn
        rw [hr] at hout
        obtain ⟨u, u2, rfl, ho2, C2⟩ := hout
        obtain ⟨tc, tn, tm⟩ := t
        rw [show tagV ⟨tc, tn, tm⟩ = .agg #[.int .i64 tc, .int .i64 tn, .bool tm] from rfl]
        have hA := Lib.hid (allS_ok HNE.out hr)
        have hpos := oneS_pos hr
        have hle2 := C2.le
        obtain ⟨au, cu, rfl, -⟩ := (Vals.of_own ho2).1.form
        generalize ((bs.drop q).take n).length = nu at *
        obtain ⟨g, hg⟩ : ∃ g, g = w2.heap.size + 1 := ⟨_, rfl⟩
        have BU := Blk.new (w2.alloc (.cells #[.int .i64 tc, .int .i64 tn, .bool tm] 97)) 23 #[.slice au nu cu]
        rw [World.size_alloc] at BU
        have F3 : Fr (fun _ => False) w2 ((w2.alloc (.cells #[.int .i64 tc, .int .i64 tn, .bool tm] 97)).alloc (.cells #[.slice au nu cu] 23)) := ((Fr.refl w2).alloc _).alloc _
        have hca : ∀ b, (Value.slice a m cap).ownBlock = some b → b ≠ c := fun b hb e => by have := (hv.out b hb).1; omega
        have O3 := ownsRow_fr (ownsRow_fr HOW1.out F2 hca) F3 (fun _ _ h => h)
        rw [← hg] at BU
        have HF3 := Lib.hid ((HF1.out.trans F2).trans (F3.mono (fun _ _ h => h.elim)))
        obtain ⟨v', w', hrun, ho7, F7, _⟩ := append_one O3 g _ BU rfl (by omega) HF3.out.size
        have HC7 := Lib.hid ((C2.old F3).step (K' := fun k => K k ∨ w.heap.size ≤ k) F7 (fun b _ e => .inr (hv.out b e).1) (fun _ h => .inl h))
        have HF7 := Lib.hid (HF3.out.trans' F7 (fun i hi e => absurd hi (by have := (hv.out i e).1; omega)))
        have HO7 := Lib.hid ho7
        obtain ⟨a7, n7, c7, rfl, hn7⟩ := own_shape ho7
        subst hn7
        have HRUN := Lib.hid hrun
        have HGG := Lib.hid hg
        clear hr C2 F2 F3 ho2 BU O3 hrun F7 hca ho7 hg
        go_wp2_with (at_builtin; refine wpList_append_run (by rfl) (.tmp 30) (.tmp 32) 136 (by rfl) _ w' (by have h := HRUN.out; rw [HGG.out] at h; exact h) ?_)
        go_roundg (bs.length - (q + n))
        case measure => rw [HG.out]; omega
        refine ⟨q + n, a7, m + 1, c7, xs ++ [.slice au nu cu], rfl, by omega, by omega, by omega, rfl, HC7.out, HO7.out, HF7.out, fun e h => ?_, fun ls h => ?_⟩
        · rw [← List.drop_drop] at h
          exact HE.out e (by rw [hA.out, h])
        · rw [← List.drop_drop] at h
          obtain ⟨ls', h1, h2⟩ := HO.out _ (by rw [hA.out, h])
          exact ⟨ls', h1, by rw [h2]; simp only [List.length_cons]; omega⟩
    · have q1 : ¬ (0 : Int) < ((bs.length - q : Nat) : Int) := by omega
      have hd : bs.drop q = [] := List.drop_eq_nil_of_le (by omega)
      obtain ⟨ls', h1, h2⟩ := HO.out [] (by rw [hd]; rfl)
      have H1 := Lib.hid h1
      have H2 := Lib.hid h2
      clear h1 h2 hd
      go_wp2_with fail
      refine bodyPost_ret (v := .tuple #[.slice a m cap, .int .i64 0]) (by simp [results, Tryz.results149, go_sem]) rfl ⟨?_, HF1.out⟩
      rw [H1.out]
      exact ⟨a, cap, by rw [H2.out]; simp⟩
end Go.Proofs.YtacekpdjapgfcaaGreatDoor

namespace Go.Q
open Go Go.RowKit
def singleB (l : List UInt8) : Bool := match allS l with | .ok ls => ls.length == 1 | .error _ => false
def attrS (o : List Int) (v : List UInt8) : Option (List UInt8) := if oidOk o && singleB v then some (wrapS (tagOf 16) (oidWhole o ++ v)) else none
theorem allS_pos {l : List UInt8} {e : Int} (h : allS l = .error e) : e ≠ 0 := by
  obtain ⟨n, hn⟩ : ∃ n, n = l.length := ⟨_, rfl⟩
  induction n using Nat.strongRecOn generalizing l with
  | _ n ih =>
    cases l with
    | nil => rw [allS_nil] at h; cases h
    | cons x t =>
      cases ho : oneS (x :: t) with
      | error e' =>
        rw [allS_err (by simp) ho] at h
        cases h
        exact Go.Proofs.YtacekpdjapgfcaaGreatDoor.oneS_nz ho
      | ok tkn =>
        obtain ⟨u, k, m⟩ := tkn
        have hp := oneS_pos ho
        rw [allS_ok (by simp) ho] at h
        cases hd : allS ((x :: t).drop m) with
        | error e' =>
          rw [hd] at h
          cases h
          exact ih _ (by rw [hn, List.length_drop]; simp only [List.length_cons]; omega) hd rfl
        | ok r => rw [hd] at h; cases h
theorem oidWhole_len {o : List Int} (h : o.length ≤ 32) : (oidWhole o).length ≤ 300 := by
  have := oidBytes_len h
  unfold oidWhole wrapS
  rw [List.length_cons, List.length_append]
  have h2 : (lenBytes (oidBytes o).length).length ≤ 5 := by unfold lenBytes; (repeat' split) <;> simp
  omega
end Go.Q
namespace Go.Proofs.YtacekpdjapgfcaaGreatDoor
open Go Go.RowKit Go.Q
set_option maxRecDepth 20000 in
theorem contents_bad (v : Value) (o : List Int) (w : World) (h : Ints w v o) (ho : oidOk o = false) :
    Calls Tryz.prog 237 #[v] w fun e w' => e = .returned (.tuple #[.slice none 0 0, .int .i64 1]) ∧ w = w' := by
  have hR := Lib.hid (oidRight_any v o w h)
  rw [ho] at hR
  clear h
  go_enter Tryz.func237, Tryz.ntmps237
  go_wp2_with fail
  refine hR.out.mono ?_
  rintro e w' ⟨rfl, rfl⟩
  go_wp2_with fail
  exact bodyPost_ret (v := .tuple #[.slice none 0 0, .int .i64 1]) (by simp [results, Tryz.results237, go_sem]) rfl ⟨rfl, rfl⟩
set_option maxRecDepth 20000 in
theorem oidWrite_bad (v : Value) (o : List Int) (w : World) (h : Ints w v o) (ho : oidOk o = false) :
    Calls Tryz.prog 186 #[v] w fun e w' => e = .returned (.tuple #[.slice none 0 0, .int .i64 1]) ∧ w = w' := by
  have hR := Lib.hid (contents_bad v o w h ho)
  clear h
  go_enter Tryz.func186, Tryz.ntmps186
  go_wp2_with fail
  refine hR.out.mono ?_
  rintro e w' ⟨rfl, rfl⟩
  go_wp2_with fail
  exact bodyPost_ret (v := .tuple #[.slice none 0 0, .int .i64 1]) (by simp [results, Tryz.results186, go_sem]) rfl ⟨rfl, rfl⟩
set_option maxRecDepth 20000 in
theorem single_any (v : Value) (l : List UInt8) (w : World) (h : Bytes w v l) (hl : l.length ≤ 1099511627776) :
    Calls Tryz.prog 187 #[v] w fun e w' => e = .returned (.bool (singleB l)) ∧ Fr (fun _ => False) w w' := by
  have hN := Lib.hid (new_any w v l h hl)
  clear h
  go_enter Tryz.func187, Tryz.ntmps187
  go_wp2_with fail
  refine hN.out.mono ?_
  rintro e w1 ⟨rfl, C1, F1⟩
  have HC := Lib.hid C1
  have HF := Lib.hid F1
  obtain ⟨c, hc⟩ : ∃ c, c = w.heap.size := ⟨_, rfl⟩
  rw [← hc] at HC ⊢
  have HCC := Lib.hid hc
  clear C1 F1 hN hc
  go_wp2_with fail
  refine (wholes_any HC.out).mono ?_
  rintro e w2 ⟨hout, F2⟩
  rw [List.drop_zero] at hout
  have G2 := HF.out.trans' F2 (fun i hi e => absurd hi (by rw [e, HCC.out]; exact Nat.lt_irrefl _))
  unfold wholesOut at hout
  have HG := Lib.hid G2
  clear F2 G2 HF
  cases hr : allS l with
  | error x =>
    rw [hr] at hout
    subst hout
    have hx1 : (x == 0) = false := beq_eq_false_iff_ne.2 (allS_pos hr)
    have hs : singleB l = false := by unfold singleB; rw [hr]
    go_wp2_with fail
    go_ret
    exact ⟨by rw [hs]; rfl, HG.out⟩
  | ok ls =>
    rw [hr] at hout
    obtain ⟨a, cap, rfl⟩ := hout
    by_cases h1 : ls.length = 1
    · have hs : singleB l = true := by unfold singleB; rw [hr]; simp [h1]
      have q1 : ((ls.length : Int) == 1) = true := by rw [h1]; rfl
      have q2 : (ls.length == 1) = true := by rw [h1]; rfl
      go_wp2_with fail
      go_ret
      exact ⟨by rw [hs]; rfl, HG.out⟩
    · have hs : singleB l = false := by unfold singleB; rw [hr]; simp [h1]
      have q1 : ((ls.length : Int) == 1) = false := beq_eq_false_iff_ne.2 (by omega)
      have q2 : (ls.length == 1) = false := beq_eq_false_iff_ne.2 (by omega)
      go_wp2_with fail
      go_ret
      exact ⟨by rw [hs]; rfl, HG.out⟩
theorem Parts.two {w : World} {u1 u2 : Value} {l1 l2 : List UInt8} (h1 : Bytes w u1 l1) (h2 : Bytes w u2 l2) : Parts (w.alloc (.cells #[u1, u2] 23)) (.slice (some ⟨w.heap.size, 0, none⟩) 2 2) [l1, l2] := by
  have F : Fr (fun _ => False) w (w.alloc (.cells #[u1, u2] 23)) := (Fr.refl w).alloc _
  refine ⟨[u1, u2], Vals.of_block (Blk.new w 23 #[u1, u2]) (by unfold maxLen; simp), rfl, fun i u l hu hl => ?_⟩
  match i, hu, hl with
  | 0, hu, hl =>
    simp only [List.getElem?_cons_zero, Option.some.injEq] at hu hl
    subst hu; subst hl
    exact h1.old F
  | 1, hu, hl =>
    simp only [List.getElem?_cons_succ, List.getElem?_cons_zero, Option.some.injEq] at hu hl
    subst hu; subst hl
    exact h2.old F
  | i + 2, hu, hl => simp at hu
def wholeOut (w w' : World) (o : List Int) (b : List UInt8) (v : Value) : Prop :=
  match attrS o b with
  | none => v = .slice none 0 0
  | some x => w'.ownsRow w.heap.size 5 1 v x.length (Lib.byteCells x)
set_option maxRecDepth 20000 in
set_option maxHeartbeats 1000000 in
theorem whole_any (x y : Value) (o : List Int) (b : List UInt8) (w : World) (hx : Ints w x o) (hy : Bytes w y b) (hl : b.length ≤ 10000000) :
    Calls Tryz.prog 145 #[.agg #[x, y]] w fun e w' => ∃ v, e = .returned v ∧ wholeOut w w' o b v ∧ Fr (fun _ => False) w w' := by
  obtain ⟨ax, cx, rfl, -⟩ := Ints.form hx
  obtain ⟨ay, cy, rfl, -⟩ := Vals.form hy
  obtain ⟨z, hz⟩ : ∃ z, z = w.heap.size := ⟨_, rfl⟩
  have BZ := Blk.new w 108 #[.slice ax o.length cx, .slice ay b.length cy]
  have F0 : Fr (fun _ => False) w (w.alloc (.cells #[.slice ax o.length cx, .slice ay b.length cy] 108)) := (Fr.refl w).alloc _
  have HX := Lib.hid (hx.old F0)
  have HY := Lib.hid (hy.old F0)
  rw [← hz] at BZ
  have HF0 := Lib.hid F0
  have HZ := Lib.hid hz
  clear hx hy F0 hz
  go_enter Tryz.func145, Tryz.ntmps145
  go_upto_region 1 with fail
  rw [← HZ.out]
  generalize (w.alloc (.cells #[.slice ax o.length cx, .slice ay b.length cy] 108)) = w0 at *
  have z0 := BZ.cell 0
  simp at z0
  by_cases ho : oidOk o = true
  · go_wp2_with fail
    refine (oidWrite_any _ o w0 HX.out ho).mono ?_
    rintro e w1 ⟨v1, rfl, ho1, F1⟩
    have hb1 := Lib.hid (Vals.of_own ho1).1
    obtain ⟨a1, c1, rfl, -⟩ := hb1.out.form
    have BZ1 := BZ.fr F1 (fun h => h)
    have z1 := BZ1.cell 1
    simp at z1
    have HF1 := Lib.hid (HF0.out.trans F1)
    have HY1 := Lib.hid (HY.out.old F1)
    clear ho1 F1 HF0 HY
    go_wp2_with fail
    refine (single_any _ b w1 HY1.out (by omega)).mono ?_
    rintro e w2 ⟨rfl, F2⟩
    have BZ2 := BZ1.fr F2 (fun h => h)
    have z2 := BZ2.cell 1
    simp at z2
    have HF2 := Lib.hid (HF1.out.trans F2)
    have HY2 := Lib.hid (HY1.out.old F2)
    have HB2 := Lib.hid (hb1.out.old F2)
    clear F2 HF1 HY1 hb1 z1 BZ BZ1
    cases hs : singleB b with
    | false =>
      have hn : attrS o b = none := by unfold attrS; rw [ho, hs]; rfl
      have HN := Lib.hid hn
      clear hn
      go_wp2_with fail
      refine bodyPost_ret (v := .slice none 0 0) (by simp [results, Tryz.results145, go_sem]) rfl ⟨_, rfl, ?_, HF2.out⟩
      unfold wholeOut
      rw [HN.out]
    | true =>
      have hn : attrS o b = some (wrapS (tagOf 16) (oidWhole o ++ b)) := by unfold attrS; rw [ho, hs]; rfl
      have HN := Lib.hid hn
      clear hn
      have hp := Parts.two HB2.out HY2.out
      have hol := oidWhole_len (nums_ok ho).2.1
      have hW := sequence_any _ [oidWhole o, b] _ hp (by simp only [List.flatten_cons, List.flatten_nil, List.length_append, List.length_nil]; omega) (by simp)
      simp only [List.flatten_cons, List.flatten_nil, List.append_nil] at hW
      have HW := Lib.hid hW
      have F3 : Fr (fun _ => False) w2 (w2.alloc (.cells #[.slice a1 (oidWhole o).length c1, .slice ay b.length cy] 23)) := (Fr.refl w2).alloc _
      have HF3 := Lib.hid (HF2.out.trans F3)
      clear hp hW F3 HF2 HY2 HB2
      go_wp2_with fail
      refine HW.out.mono ?_
      rintro e w3 ⟨v3, rfl, ho3, F4⟩
      have HO3 := Lib.hid (own_le ho3 HF3.out.size)
      have HF4 := Lib.hid (HF3.out.trans F4)
      obtain ⟨a3, c3, rfl, -⟩ := (Vals.of_own ho3).1.form
      clear ho3 F4 HF3 HW
      go_wp2_with fail
      refine bodyPost_ret (v := .slice a3 (wrapS (tagOf 16) (oidWhole o ++ b)).length c3) (by simp [results, Tryz.results145, go_sem]) rfl ⟨_, rfl, ?_, HF4.out⟩
      unfold wholeOut
      rw [HN.out]
      exact HO3.out
  · have ho := Bool.eq_false_iff.2 ho
    have hn : attrS o b = none := by unfold attrS; rw [ho]; rfl
    have HN := Lib.hid hn
    clear hn
    go_wp2_with fail
    refine (oidWrite_bad _ o w0 HX.out ho).mono ?_
    rintro e w1 ⟨rfl, rfl⟩
    go_wp2_with fail
    refine bodyPost_ret (v := .slice none 0 0) (by simp [results, Tryz.results145, go_sem]) rfl ⟨_, rfl, ?_, HF0.out⟩
    unfold wholeOut
    rw [HN.out]
end Go.Proofs.YtacekpdjapgfcaaGreatDoor
