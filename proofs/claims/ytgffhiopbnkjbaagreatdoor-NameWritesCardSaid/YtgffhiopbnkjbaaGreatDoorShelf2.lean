/-
  DERIVED: THE SHELF's CONTRACTS AT THIS DUMP, IN PLAIN WORDS (tools/lay-plain.mjs out of 'TryzShelf2.lean', which tools/lay-shelf.mjs wrote): THE SAME DECLARATIONS UNDER THE SAME NAMES: 'import', 'namespace', 'open', 'def', 'theorem' AND NOTHING ELSE: no command of the shelf's: FOR A HAND-IN. Each laying: the table of numbers ('.._ren') and one theorem, a field a fact of the dump's own or the kernel's comparison; each contract: ONE APPLICATION.
-/
import Derived.Shelf.Spec.DecodeRune
import Derived.Shelf.Spec.NilArms
import Derived.Test.YtgffhiopbnkjbaaGreatDoorProg
namespace Go.Proofs
open Go.Shelf
def Tryz.lays7x32_ren : Go.Shelf.Ren := ⟨fun | 32 => 216 | 49 => 250 | n => n, fun | 30 => 23 | 21 => 21 | 3 => 3 | 0 => 0 | 5 => 5 | 4 => 4 | 33 => 274 | 66 => 299 | 25 => 227 | 69 => 302 | 68 => 301 | n => n, fun | 2 => 1 | 3 => 2 | n => n⟩
theorem Tryz.lays7x32 : Go.Proofs.Lays7.n32 Tryz.prog Tryz.lays7x32_ren := {
  mixed := by kernel_rfl
  f32 := Tryz.func216.trans (congrArg some (by kernel_rfl))
  f49 := Tryz.func250.trans (congrArg some (by kernel_rfl))
  t0 := Tryz.underlying0
  a0 := Tryz.isAgg0
  z0 := Tryz.sizeOf0
  v0 := Tryz.zeroValue0
  i0 := by kernel_rfl
  t3 := Tryz.underlying3
  a3 := Tryz.isAgg3
  z3 := Tryz.sizeOf3
  v3 := Tryz.zeroValue3
  i3 := by kernel_rfl
  t4 := Tryz.underlying4
  a4 := Tryz.isAgg4
  z4 := Tryz.sizeOf4
  v4 := Tryz.zeroValue4
  i4 := by kernel_rfl
  t5 := Tryz.underlying5
  a5 := Tryz.isAgg5
  z5 := Tryz.sizeOf5
  v5 := Tryz.zeroValue5
  i5 := by kernel_rfl
  t21 := Tryz.underlying21
  a21 := Tryz.isAgg21
  z21 := Tryz.sizeOf21
  v21 := Tryz.zeroValue21
  i21 := by kernel_rfl
  t25 := Tryz.underlying227
  a25 := Tryz.isAgg227
  z25 := Tryz.sizeOf227
  v25 := Tryz.zeroValue227
  i25 := by kernel_rfl
  t30 := Tryz.underlying23
  a30 := Tryz.isAgg23
  z30 := Tryz.sizeOf23
  v30 := Tryz.zeroValue23
  i30 := by kernel_rfl
  t33 := Tryz.underlying274
  a33 := Tryz.isAgg274
  z33 := Tryz.sizeOf274
  v33 := Tryz.zeroValue274
  i33 := by kernel_rfl
  t66 := Tryz.underlying299
  a66 := Tryz.isAgg299
  z66 := Tryz.sizeOf299
  t68 := Tryz.underlying301
  a68 := Tryz.isAgg301
  z68 := Tryz.sizeOf301
  v68 := Tryz.zeroValue301
  i68 := by kernel_rfl
  t69 := Tryz.underlying302
  a69 := Tryz.isAgg302
  z69 := Tryz.sizeOf302
  v69 := Tryz.zeroValue302
  i69 := by kernel_rfl
  g2 := by kernel_rfl
  g3 := by kernel_rfl }
open Go.RowKit Go.Lib in
theorem Tryz.utf8_DecodeRune (s : ByteArray) (b off cap : Nat) (w : World) (hT : Lib.Utf8Tabs 1 2 w) (hp : ∀ j, j < s.size → w.cell? ⟨b, off + j, none⟩ = some (.int .u8 (s.get! j).toNat)) :
    Calls Tryz.prog 216 #[.slice (some ⟨b, off, none⟩) s.size cap] w fun e w' => e = .returned (.tuple #[.int .i32 (Lib.decodeGo s).1, .int .i64 (Lib.decodeGo s).2]) ∧ Below w.heap.size w w' := Any7.utf8_DecodeRune Tryz.lays7x32 s b off cap w hT hp
end Go.Proofs
