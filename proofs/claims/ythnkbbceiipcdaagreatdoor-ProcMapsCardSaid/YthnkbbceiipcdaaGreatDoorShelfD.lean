/-
  DERIVED: THE SHELF's CONTRACTS AT THIS DUMP, IN PLAIN WORDS (tools/lay-plain.mjs out of 'YthnkbbceiipcdaaGreatDoorMoreQ.lean', which tools/lay-shelf.mjs wrote): THE SAME DECLARATIONS UNDER THE SAME NAMES: 'import', 'namespace', 'open', 'def', 'theorem' AND NOTHING ELSE: no command of the shelf's: FOR A HAND-IN. Each laying: the table of numbers ('.._ren') and one theorem, a field a fact of the dump's own or the kernel's comparison; each contract: ONE APPLICATION.
-/
import Derived.Shelf.SlGeneric
import Derived.Shelf.SlIterI.Nil
import Derived.Shelf.SlIterI.Sorted
import Derived.Shelf.SortM.Plain
import Derived.Shelf.SortM.SortNone
import Derived.Ground.GgzProg
import Derived.Ground.SlgmProg
import Derived.Test.YthnkbbceiipcdaaGreatDoorProg
namespace Go.Proofs
open Go.Shelf
def Tryz.keysA_ren : Go.Shelf.Ren := ⟨fun | 7 => 102 | 10 => 149 | n => n, fun | 23 => 148 | 26 => 3 | 3 => 126 | 28 => 206 | 0 => 0 | 27 => 205 | 33 => 152 | 4 => 4 | n => n, fun | n => n⟩
theorem Tryz.keysA : Go.Proofs.SlLaysZI.n7 Tryz.prog Tryz.keysA_ren := {
  mixed := by kernel_rfl
  f7 := ⟨Tryz.f102.name, by decide, Tryz.func102.trans (congrArg some (by kernel_rfl))⟩
  f10 := ⟨Tryz.f149.name, by decide, Tryz.func149.trans (congrArg some (by kernel_rfl))⟩
  t0 := Tryz.underlying0
  a0 := Tryz.isAgg0
  z0 := Tryz.sizeOf0
  v0 := Tryz.zeroValue0
  t4 := Tryz.underlying4
  a4 := Tryz.isAgg4
  z4 := Tryz.sizeOf4
  v4 := Tryz.zeroValue4
  t23 := Tryz.underlying148
  a23 := Tryz.isAgg148
  z23 := Tryz.sizeOf148
  v23 := Tryz.zeroValue148
  t26 := Tryz.underlying3
  a26 := Tryz.isAgg3
  z26 := Tryz.sizeOf3
  v26 := Tryz.zeroValue3
  t27 := Tryz.underlying205
  a27 := Tryz.isAgg205
  z27 := Tryz.sizeOf205
  v27 := Tryz.zeroValue205
  t28 := Tryz.underlying206
  a28 := Tryz.isAgg206
  z28 := Tryz.sizeOf206
  v28 := Tryz.zeroValue206
  t33 := Tryz.underlying152
  a33 := Tryz.isAgg152
  z33 := Tryz.sizeOf152
  v33 := Tryz.zeroValue152 }
def Tryz.sortedA_ren : Go.Shelf.Ren := ⟨fun | 6 => 101 | 8 => 148 | 9 => 105 | 11 => 201 | 13 => 152 | 12 => 151 | 23 => 210 | 24 => 211 | 14 => 202 | 15 => 203 | 16 => 204 | 17 => 205 | 18 => 206 | 19 => 207 | 20 => 153 | 21 => 208 | 22 => 209 | 25 => 253 | 26 => 254 | 27 => 255 | 28 => 256 | 29 => 257 | 30 => 212 | 31 => 297 | n => n, fun | 26 => 3 | 28 => 206 | 24 => 60 | 0 => 0 | 3 => 3 | 37 => 241 | 48 => 304 | 50 => 29 | 4 => 4 | 40 => 298 | 39 => 297 | 45 => 211 | 5 => 5 | 9 => 9 | 51 => 338 | 55 => 55 | 57 => 370 | 58 => 371 | 33 => 152 | n => n, fun | n => n⟩
theorem Tryz.sortedA : Go.Proofs.SlLaysZI.n6 Tryz.prog Tryz.sortedA_ren := {
  mixed := by kernel_rfl
  f6 := ⟨Tryz.f101.name, by decide, Tryz.func101.trans (congrArg some (by kernel_rfl))⟩
  f8 := ⟨Tryz.f148.name, by decide, Tryz.func148.trans (congrArg some (by kernel_rfl))⟩
  f11 := ⟨Tryz.f201.name, by decide, Tryz.func201.trans (congrArg some (by kernel_rfl))⟩
  t0 := Tryz.underlying0
  a0 := Tryz.isAgg0
  z0 := Tryz.sizeOf0
  v0 := Tryz.zeroValue0
  t24 := Tryz.underlying60
  a24 := Tryz.isAgg60
  z24 := Tryz.sizeOf60
  v24 := Tryz.zeroValue60
  t26 := Tryz.underlying3
  a26 := Tryz.isAgg3
  z26 := Tryz.sizeOf3
  v26 := Tryz.zeroValue3
  t28 := Tryz.underlying206
  a28 := Tryz.isAgg206
  z28 := Tryz.sizeOf206
  v28 := Tryz.zeroValue206
  i26 := by kernel_rfl }
def Tryz.sortA_ren : Go.Shelf.Ren := ⟨fun | 5 => 105 | 8 => 152 | 7 => 151 | 19 => 210 | 20 => 211 | 10 => 202 | 11 => 203 | 12 => 204 | 13 => 205 | 14 => 206 | 15 => 207 | 16 => 153 | 17 => 208 | 18 => 209 | 30 => 253 | 31 => 254 | 32 => 255 | 33 => 256 | 34 => 257 | 35 => 212 | 40 => 297 | n => n, fun | 23 => 60 | 25 => 3 | 3 => 3 | 32 => 241 | 22 => 60 | 0 => 0 | 44 => 304 | 46 => 29 | 4 => 4 | 36 => 298 | 35 => 297 | 41 => 211 | 5 => 5 | 9 => 9 | 53 => 338 | 57 => 55 | 63 => 370 | 64 => 371 | n => n, fun | n => n⟩
theorem Tryz.sortA : Go.Proofs.SlLaysM.n5 Tryz.prog Tryz.sortA_ren := {
  mixed := by kernel_rfl
  f5 := ⟨Tryz.f105.name, by decide, Tryz.func105.trans (congrArg some (by kernel_rfl))⟩
  f7 := ⟨Tryz.f151.name, by decide, Tryz.func151.trans (congrArg some (by kernel_rfl))⟩
  f8 := Tryz.func152.trans (congrArg some (by kernel_rfl))
  f10 := ⟨Tryz.f202.name, by decide, Tryz.func202.trans (congrArg some (by kernel_rfl))⟩
  f11 := ⟨Tryz.f203.name, by decide, Tryz.func203.trans (congrArg some (by kernel_rfl))⟩
  f12 := ⟨Tryz.f204.name, by decide, Tryz.func204.trans (congrArg some (by kernel_rfl))⟩
  f13 := ⟨Tryz.f205.name, by decide, Tryz.func205.trans (congrArg some (by kernel_rfl))⟩
  f14 := ⟨Tryz.f206.name, by decide, Tryz.func206.trans (congrArg some (by kernel_rfl))⟩
  f15 := ⟨Tryz.f207.name, by decide, Tryz.func207.trans (congrArg some (by kernel_rfl))⟩
  f16 := ⟨Tryz.f153.name, by decide, Tryz.func153.trans (congrArg some (by kernel_rfl))⟩
  f17 := ⟨Tryz.f208.name, by decide, Tryz.func208.trans (congrArg some (by kernel_rfl))⟩
  f18 := ⟨Tryz.f209.name, by decide, Tryz.func209.trans (congrArg some (by kernel_rfl))⟩
  f19 := Tryz.func210.trans (congrArg some (by kernel_rfl))
  f20 := Tryz.func211.trans (congrArg some (by kernel_rfl))
  f30 := ⟨Tryz.f253.name, by decide, Tryz.func253.trans (congrArg some (by kernel_rfl))⟩
  f31 := Tryz.func254.trans (congrArg some (by kernel_rfl))
  f32 := Tryz.func255.trans (congrArg some (by kernel_rfl))
  f33 := ⟨Tryz.f256.name, by decide, Tryz.func256.trans (congrArg some (by kernel_rfl))⟩
  f34 := ⟨Tryz.f257.name, by decide, Tryz.func257.trans (congrArg some (by kernel_rfl))⟩
  f35 := ⟨Tryz.f212.name, by decide, Tryz.func212.trans (congrArg some (by kernel_rfl))⟩
  f40 := ⟨Tryz.f297.name, by decide, Tryz.func297.trans (congrArg some (by kernel_rfl))⟩
  t0 := Tryz.underlying0
  a0 := Tryz.isAgg0
  z0 := Tryz.sizeOf0
  v0 := Tryz.zeroValue0
  t3 := Tryz.underlying3
  a3 := Tryz.isAgg3
  z3 := Tryz.sizeOf3
  v3 := Tryz.zeroValue3
  t4 := Tryz.underlying4
  a4 := Tryz.isAgg4
  z4 := Tryz.sizeOf4
  v4 := Tryz.zeroValue4
  t5 := Tryz.underlying5
  a5 := Tryz.isAgg5
  z5 := Tryz.sizeOf5
  v5 := Tryz.zeroValue5
  t9 := Tryz.underlying9
  a9 := Tryz.isAgg9
  z9 := Tryz.sizeOf9
  v9 := Tryz.zeroValue9
  t22 := Tryz.underlying60
  a22 := Tryz.isAgg60
  z22 := Tryz.sizeOf60
  v22 := Tryz.zeroValue60
  t23 := Tryz.underlying60
  a23 := Tryz.isAgg60
  z23 := Tryz.sizeOf60
  v23 := Tryz.zeroValue60
  t25 := Tryz.underlying3
  a25 := Tryz.isAgg3
  z25 := Tryz.sizeOf3
  v25 := Tryz.zeroValue3
  t32 := Tryz.underlying241
  a32 := Tryz.isAgg241
  z32 := Tryz.sizeOf241
  v32 := Tryz.zeroValue241
  t35 := Tryz.underlying297
  a35 := Tryz.isAgg297
  z35 := Tryz.sizeOf297
  v35 := Tryz.zeroValue297
  t36 := Tryz.underlying298
  a36 := Tryz.isAgg298
  z36 := Tryz.sizeOf298
  v36 := Tryz.zeroValue298
  t41 := Tryz.underlying211
  a41 := Tryz.isAgg211
  z41 := Tryz.sizeOf211
  v41 := Tryz.zeroValue211
  t44 := Tryz.underlying304
  a44 := Tryz.isAgg304
  z44 := Tryz.sizeOf304
  v44 := Tryz.zeroValue304
  t46 := Tryz.underlying29
  a46 := Tryz.isAgg29
  z46 := Tryz.sizeOf29
  v46 := Tryz.zeroValue29
  t53 := Tryz.underlying338
  a53 := Tryz.isAgg338
  z53 := Tryz.sizeOf338
  v53 := Tryz.zeroValue338
  t57 := Tryz.underlying55
  a57 := Tryz.isAgg55
  z57 := Tryz.sizeOf55
  v57 := Tryz.zeroValue55
  t63 := Tryz.underlying370
  a63 := Tryz.isAgg370
  z63 := Tryz.sizeOf370
  v63 := Tryz.zeroValue370
  t64 := Tryz.underlying371
  a64 := Tryz.isAgg371
  z64 := Tryz.sizeOf371
  v64 := Tryz.zeroValue371 }
end Go.Proofs
