/-
  The walk of the cache's each: a callback is called at every slot, from the one that wasn't used the longest on; it may take the slot out.
-/
import Derived.Test.YtjcjebmlibllbaaCaAway
import Derived.Deep.LoopGhost
import Derived.LaidEql
namespace Go.Proofs.Ytjcjebmlibllbaa
open Go Go.RowKit Go.Q

theorem slotInfo : (Try.prog.info? 72).map (·.size) = some 9 := by kernel_rfl
theorem neq_same (a : Addr) (w : World) : (binOp .neq 61 (.pointer (some a)) (.pointer (some a))).run Try.prog w = .ok (.bool false) w := by
  obtain ⟨j, hj, hs⟩ := Option.map_eq_some_iff.1 slotInfo
  have h : ∀ d : Nat, (Op.equalIn (d + 1) 61 (.pointer (some a)) (.pointer (some a))).run Try.prog w = .ok true w := fun d => by
    simp [Op.equalIn, sizeOf, typeInfo, hj, run_sameAddr_same]
  simp only [binOp]
  simp [Op.equal, Op.maxDepth, h 9999]
theorem neq_other {a b : Addr} {ca cb : Array Value} {ta tb : TypeId} (w : World) (hne : a ≠ b) (ha : w.heap[a.block]? = some (.cells ca ta (0, 0))) (hb : w.heap[b.block]? = some (.cells cb tb (0, 0))) :
    (binOp .neq 61 (.pointer (some a)) (.pointer (some b))).run Try.prog w = .ok (.bool true) w := by
  obtain ⟨j, hj, hs⟩ := Option.map_eq_some_iff.1 slotInfo
  have h : ∀ d : Nat, (Op.equalIn (d + 1) 61 (.pointer (some a)) (.pointer (some b))).run Try.prog w = .ok false w := fun d => by
    simp [Op.equalIn, sizeOf, typeInfo, hj, hs, run_sameAddr_other w hne ha hb]
  simp only [binOp]
  simp [Op.equal, Op.maxDepth, h 9999]

/-- A frame that names the blocks that may not be met: what comes ahead in a ring. -/
def headOf (l : List Nat) (r : Nat) : Nat := match l with | [] => r | b :: _ => b

theorem _root_.Go.Q.Ring.next {w : World} {T : TypeId} {r : Nat} {D : Nat → Slot} {A H : Nat → Nat} {pre : List Nat} {b : Nat} {rest : List Nat} (h : Ring w T r (pre ++ b :: rest) D A H) : H b = headOf rest r := by
  have hl := h.lk
  have e : r :: (pre ++ b :: rest ++ [r]) = (r :: pre) ++ b :: (rest ++ [r]) := by simp
  rw [e, lk_append] at hl
  cases rest with
  | nil => exact hl.2.1
  | cons x t => exact hl.2.1
theorem _root_.Go.Q.Ring.first {w : World} {T : TypeId} {r : Nat} {D : Nat → Slot} {A H : Nat → Nat} {bs : List Nat} (h : Ring w T r bs D A H) : H r = headOf bs r := by
  have hl := h.lk
  cases bs with
  | nil => exact hl.1
  | cons x t => exact hl.1

set_option maxHeartbeats 1000000 in
theorem each_nil (f : Value) (w : World) : Calls Try.prog 29 #[.pointer none, f] w fun e w' => e = .returned (.tuple #[]) ∧ w = w' := by
  go_enter Try.func29, Try.ntmps29
  go_wp2
  exact bodyPost_ret (v := .tuple #[]) (by simp [results, Try.results29, go_sem]) rfl ⟨rfl, rfl⟩

set_option maxHeartbeats 2000000 in
theorem each_any (N : Nat) (cap : Array Value) (hN : ∀ args w, (callFunc N args).run Try.prog w = .ok (.enter N args) w) (c r m : Nat) (room : Int) (D : Nat → Slot) (J : List Nat → List Nat → World → Prop)
    (hJ : ∀ pre rest w, J pre rest w → CacheAt w c r m room (pre ++ rest) D)
    (hstep : ∀ pre b rest w, J pre (b :: rest) w → Calls Try.prog N (#[pt b] ++ cap) w fun e w' => e = .returned (.tuple #[]) ∧ ∃ pre', J pre' rest w')
    (bs : List Nat) (w : World) (h0 : J [] bs w) :
    Calls Try.prog 29 #[pt c, .func (.func N) #[] cap] w fun e w' => e = .returned (.tuple #[]) ∧ ∃ pre, J pre [] w' := by
  have C0 := hJ [] bs w h0
  obtain ⟨A0, H0, R0⟩ := C0.ring
  have q1 := C0.cc.cell 1
  have k1 := (R0.blk r (by simp)).cell 1
  have hf := R0.first
  simp at hf
  obtain ⟨y0, hy0⟩ : ∃ y, y = headOf bs r := ⟨_, rfl⟩
  rw [← hy0] at hf
  simp [slotCells, hf] at k1 q1
  have HJ := Lib.hid hJ
  have HS := Lib.hid hstep
  have H0' := Lib.hid h0
  have HY0 := Lib.hid hy0
  clear hJ hstep h0 C0 R0 hf hy0
  go_enter Try.func29, Try.ntmps29
  go_wp2_with fail
  clear k1 q1
  go_loopg [4] bs.length (fun g s wr => ∃ pre rest y, g = rest.length ∧ s = pt y ∧ y = headOf rest r ∧ J pre rest wr)
  case atStart => exact ⟨[], bs, y0, rfl, rfl, HY0.out, H0'.out⟩
  case round =>
    obtain ⟨pre, rest, y, hg, rfl, hy, hj⟩ := hrel
    have C := HJ.out pre rest wr hj
    obtain ⟨A, H, R⟩ := C.ring
    have q2 := C.cc.cell 1
    simp at q2
    have HJ' := Lib.hid hj
    have HG := Lib.hid hg
    clear hj hg
    cases rest with
    | nil =>
      obtain rfl : y = r := hy
      have hrr := neq_same ⟨y, 0, none⟩ wr
      clear HG
      go_wp2_with fail
      go_end0
      exact ⟨rfl, pre, HJ'.out⟩
    | cons b t =>
      obtain rfl : y = b := hy
      have kb := (R.blk y (by simp)).cell 1
      have hn := R.next
      obtain ⟨z, hz⟩ : ∃ z, z = headOf t r := ⟨_, rfl⟩
      rw [← hz] at hn
      have HZ := Lib.hid hz
      simp [slotCells, hn] at kb
      have hne : (⟨y, 0, none⟩ : Addr) ≠ ⟨r, 0, none⟩ := fun e => by
        have e' : y = r := congrArg Addr.block e
        have := R.nodup
        simp only [List.nodup_cons] at this
        exact this.1 (by rw [← e']; simp)
      have hrr := neq_other wr hne (R.blk y (by simp)) (R.blk r (by simp))
      have hst := HS.out pre y t wr HJ'.out
      have HST := Lib.hid hst
      clear hst hn hz C R
      go_wp2_with fail
      refine HST.out.mono ?_
      rintro e w1 ⟨rfl, pre', hj'⟩
      go_wp2_with fail
      go_roundg t.length
      case measure => rw [HG.out]; simp
      case rel => exact ⟨pre', t, z, rfl, rfl, HZ.out, hj'⟩
end Go.Proofs.Ytjcjebmlibllbaa
