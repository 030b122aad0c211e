/-
  DERIVED: THE SHELF's CONTRACTS AT THIS DUMP, IN PLAIN WORDS (tools/lay-plain.mjs out of 'YtlpkidpkgbjenaaMore.lean', which tools/lay-shelf.mjs wrote): THE SAME DECLARATIONS UNDER THE SAME NAMES: 'import', 'namespace', 'open', 'def', 'theorem' AND NOTHING ELSE: no command of the shelf's: FOR A HAND-IN. Each laying: the table of numbers ('.._ren') and one theorem, a field a fact of the dump's own or the kernel's comparison; each contract: ONE APPLICATION.
-/
import Derived.Shelf.SlGeneric
import Derived.Ground.Names2Prog
import Derived.Ground.SlgfProg
import Derived.Ground.Names8Prog
import Derived.Shelf.Spec.SlicesGrow
import Derived.Shelf.Spec.SlicesInsert
import Derived.Shelf.Spec.SlicesInsertGrow
import Derived.Shelf.SlicesE.DeleteFunc
import Derived.Test.YtlpkidpkgbjenaaProg
namespace Go.Proofs
open Go.Shelf
def Try.ins21_ren : Go.Shelf.Ren := ⟨fun | 21 => 26 | 27 => 34 | 28 => 35 | 35 => 41 | 39 => 52 | n => n, fun | 22 => 22 | 3 => 3 | 4 => 4 | 0 => 0 | n => n, fun | n => n⟩
theorem Try.ins21 : Go.Proofs.Lays2.n21 Try.prog Try.ins21_ren := {
  mixed := by kernel_rfl
  f21 := Try.func26.trans (congrArg some (by kernel_rfl))
  f27 := Try.func34.trans (congrArg some (by kernel_rfl))
  f28 := Try.func35.trans (congrArg some (by kernel_rfl))
  f35 := Try.func41.trans (congrArg some (by kernel_rfl))
  f39 := Try.func52.trans (congrArg some (by kernel_rfl))
  t0 := Try.underlying0
  a0 := Try.isAgg0
  z0 := Try.sizeOf0
  v0 := Try.zeroValue0
  t3 := Try.underlying3
  a3 := Try.isAgg3
  z3 := Try.sizeOf3
  v3 := Try.zeroValue3
  t4 := Try.underlying4
  a4 := Try.isAgg4
  z4 := Try.sizeOf4
  v4 := Try.zeroValue4
  t22 := Try.underlying22
  a22 := Try.isAgg22
  z22 := Try.sizeOf22
  v22 := Try.zeroValue22
  i3 := by kernel_rfl }
def Try.del10_ren : Go.Shelf.Ren := ⟨fun | 10 => 30 | 6 => 39 | n => n, fun | 22 => 22 | 23 => 3 | 25 => 44 | 3 => 3 | 4 => 4 | 0 => 0 | n => n, fun | n => n⟩
theorem Try.del10 : Go.Proofs.SlLaysH.n10 Try.prog Try.del10_ren := {
  mixed := by kernel_rfl
  f6 := ⟨Try.f39.name, by decide, Try.func39.trans (congrArg some (by kernel_rfl))⟩
  f10 := ⟨Try.f30.name, by decide, Try.func30.trans (congrArg some (by kernel_rfl))⟩
  t0 := Try.underlying0
  a0 := Try.isAgg0
  z0 := Try.sizeOf0
  v0 := Try.zeroValue0
  t3 := Try.underlying3
  a3 := Try.isAgg3
  z3 := Try.sizeOf3
  v3 := Try.zeroValue3
  t4 := Try.underlying4
  a4 := Try.isAgg4
  z4 := Try.sizeOf4
  v4 := Try.zeroValue4
  t22 := Try.underlying22
  a22 := Try.isAgg22
  z22 := Try.sizeOf22
  v22 := Try.zeroValue22
  a23 := Try.isAgg3
  z23 := Try.sizeOf3
  t25 := Try.underlying44
  a25 := Try.isAgg44
  z25 := Try.sizeOf44
  v25 := Try.zeroValue44 }
def Try.growI_ren : Go.Shelf.Ren := ⟨fun | 4 => 36 | n => n, fun | 22 => 22 | 25 => 3 | 3 => 3 | 4 => 4 | 9 => 9 | 20 => 20 | 0 => 0 | n => n, fun | n => n⟩
theorem Try.growI : Go.Proofs.Lays8.n4 Try.prog Try.growI_ren := {
  mixed := by kernel_rfl
  f4 := ⟨Try.f36.name, by decide, Try.func36.trans (congrArg some (by kernel_rfl))⟩
  t0 := Try.underlying0
  a0 := Try.isAgg0
  z0 := Try.sizeOf0
  v0 := Try.zeroValue0
  t3 := Try.underlying3
  a3 := Try.isAgg3
  z3 := Try.sizeOf3
  v3 := Try.zeroValue3
  t4 := Try.underlying4
  a4 := Try.isAgg4
  z4 := Try.sizeOf4
  v4 := Try.zeroValue4
  t9 := Try.underlying9
  a9 := Try.isAgg9
  z9 := Try.sizeOf9
  v9 := Try.zeroValue9
  t20 := Try.underlying20
  a20 := Try.isAgg20
  z20 := Try.sizeOf20
  v20 := Try.zeroValue20
  t22 := Try.underlying22
  a22 := Try.isAgg22
  z22 := Try.sizeOf22
  v22 := Try.zeroValue22 }
end Go.Proofs
