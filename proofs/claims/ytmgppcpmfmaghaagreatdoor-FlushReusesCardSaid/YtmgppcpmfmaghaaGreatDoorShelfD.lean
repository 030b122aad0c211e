/-
  DERIVED: THE SHELF's CONTRACTS AT THIS DUMP, IN PLAIN WORDS (tools/lay-plain.mjs out of 'YtmgppcpmfmaghaaGreatDoorMoreD.lean', which tools/lay-shelf.mjs wrote): THE SAME DECLARATIONS UNDER THE SAME NAMES: 'import', 'namespace', 'open', 'def', 'theorem' AND NOTHING ELSE: no command of the shelf's: FOR A HAND-IN. Each laying: the table of numbers ('.._ren') and one theorem, a field a fact of the dump's own or the kernel's comparison; each contract: ONE APPLICATION.
-/
import Derived.Shelf.SlGeneric
import Derived.Shelf.SlIterI.Nil
import Derived.Shelf.SlIterI.Sorted
import Derived.Shelf.SortM.Plain
import Derived.Shelf.SortM.SortNone
import Derived.Ground.GgzProg
import Derived.Ground.SlgmProg
import Derived.Test.YtmgppcpmfmaghaaGreatDoorProg
namespace Go.Proofs
open Go.Shelf
def Tryz.keysA_ren : Go.Shelf.Ren := ⟨fun | 7 => 102 | 10 => 161 | n => n, fun | 23 => 172 | 26 => 3 | 3 => 149 | 28 => 170 | 0 => 0 | 27 => 169 | 33 => 184 | 4 => 4 | n => n, fun | n => n⟩
theorem Tryz.keysA : Go.Proofs.SlLaysZI.n7 Tryz.prog Tryz.keysA_ren := {
  mixed := by kernel_rfl
  f7 := ⟨Tryz.f102.name, by decide, Tryz.func102.trans (congrArg some (by kernel_rfl))⟩
  f10 := ⟨Tryz.f161.name, by decide, Tryz.func161.trans (congrArg some (by kernel_rfl))⟩
  t0 := Tryz.underlying0
  a0 := Tryz.isAgg0
  z0 := Tryz.sizeOf0
  v0 := Tryz.zeroValue0
  t4 := Tryz.underlying4
  a4 := Tryz.isAgg4
  z4 := Tryz.sizeOf4
  v4 := Tryz.zeroValue4
  t23 := Tryz.underlying172
  a23 := Tryz.isAgg172
  z23 := Tryz.sizeOf172
  v23 := Tryz.zeroValue172
  t26 := Tryz.underlying3
  a26 := Tryz.isAgg3
  z26 := Tryz.sizeOf3
  v26 := Tryz.zeroValue3
  t27 := Tryz.underlying169
  a27 := Tryz.isAgg169
  z27 := Tryz.sizeOf169
  v27 := Tryz.zeroValue169
  t28 := Tryz.underlying170
  a28 := Tryz.isAgg170
  z28 := Tryz.sizeOf170
  v28 := Tryz.zeroValue170
  t33 := Tryz.underlying184
  a33 := Tryz.isAgg184
  z33 := Tryz.sizeOf184
  v33 := Tryz.zeroValue184 }
def Tryz.sortedA_ren : Go.Shelf.Ren := ⟨fun | 6 => 101 | 8 => 160 | 9 => 147 | 11 => 242 | 13 => 223 | 12 => 222 | 23 => 284 | 24 => 285 | 14 => 276 | 15 => 277 | 16 => 278 | 17 => 279 | 18 => 280 | 19 => 281 | 20 => 257 | 21 => 282 | 22 => 283 | 25 => 323 | 26 => 324 | 27 => 325 | 28 => 326 | 29 => 327 | 30 => 306 | 31 => 348 | n => n, fun | 26 => 3 | 28 => 170 | 24 => 58 | 0 => 0 | 3 => 3 | 37 => 52 | 48 => 362 | 50 => 29 | 4 => 4 | 40 => 356 | 39 => 355 | 45 => 282 | 5 => 5 | 9 => 9 | 51 => 384 | 55 => 104 | 57 => 403 | 58 => 404 | 33 => 184 | n => n, fun | n => n⟩
theorem Tryz.sortedA : Go.Proofs.SlLaysZI.n6 Tryz.prog Tryz.sortedA_ren := {
  mixed := by kernel_rfl
  f6 := ⟨Tryz.f101.name, by decide, Tryz.func101.trans (congrArg some (by kernel_rfl))⟩
  f8 := ⟨Tryz.f160.name, by decide, Tryz.func160.trans (congrArg some (by kernel_rfl))⟩
  f11 := ⟨Tryz.f242.name, by decide, Tryz.func242.trans (congrArg some (by kernel_rfl))⟩
  t0 := Tryz.underlying0
  a0 := Tryz.isAgg0
  z0 := Tryz.sizeOf0
  v0 := Tryz.zeroValue0
  t24 := Tryz.underlying58
  a24 := Tryz.isAgg58
  z24 := Tryz.sizeOf58
  v24 := Tryz.zeroValue58
  t26 := Tryz.underlying3
  a26 := Tryz.isAgg3
  z26 := Tryz.sizeOf3
  v26 := Tryz.zeroValue3
  t28 := Tryz.underlying170
  a28 := Tryz.isAgg170
  z28 := Tryz.sizeOf170
  v28 := Tryz.zeroValue170
  i26 := by kernel_rfl }
def Tryz.sortA_ren : Go.Shelf.Ren := ⟨fun | 5 => 147 | 8 => 223 | 7 => 222 | 19 => 284 | 20 => 285 | 10 => 276 | 11 => 277 | 12 => 278 | 13 => 279 | 14 => 280 | 15 => 281 | 16 => 257 | 17 => 282 | 18 => 283 | 30 => 323 | 31 => 324 | 32 => 325 | 33 => 326 | 34 => 327 | 35 => 306 | 40 => 348 | n => n, fun | 23 => 58 | 25 => 3 | 3 => 3 | 32 => 52 | 22 => 58 | 0 => 0 | 44 => 362 | 46 => 29 | 4 => 4 | 36 => 356 | 35 => 355 | 41 => 282 | 5 => 5 | 9 => 9 | 53 => 384 | 57 => 104 | 63 => 403 | 64 => 404 | n => n, fun | n => n⟩
theorem Tryz.sortA : Go.Proofs.SlLaysM.n5 Tryz.prog Tryz.sortA_ren := {
  mixed := by kernel_rfl
  f5 := ⟨Tryz.f147.name, by decide, Tryz.func147.trans (congrArg some (by kernel_rfl))⟩
  f7 := ⟨Tryz.f222.name, by decide, Tryz.func222.trans (congrArg some (by kernel_rfl))⟩
  f8 := Tryz.func223.trans (congrArg some (by kernel_rfl))
  f10 := ⟨Tryz.f276.name, by decide, Tryz.func276.trans (congrArg some (by kernel_rfl))⟩
  f11 := ⟨Tryz.f277.name, by decide, Tryz.func277.trans (congrArg some (by kernel_rfl))⟩
  f12 := ⟨Tryz.f278.name, by decide, Tryz.func278.trans (congrArg some (by kernel_rfl))⟩
  f13 := ⟨Tryz.f279.name, by decide, Tryz.func279.trans (congrArg some (by kernel_rfl))⟩
  f14 := ⟨Tryz.f280.name, by decide, Tryz.func280.trans (congrArg some (by kernel_rfl))⟩
  f15 := ⟨Tryz.f281.name, by decide, Tryz.func281.trans (congrArg some (by kernel_rfl))⟩
  f16 := ⟨Tryz.f257.name, by decide, Tryz.func257.trans (congrArg some (by kernel_rfl))⟩
  f17 := ⟨Tryz.f282.name, by decide, Tryz.func282.trans (congrArg some (by kernel_rfl))⟩
  f18 := ⟨Tryz.f283.name, by decide, Tryz.func283.trans (congrArg some (by kernel_rfl))⟩
  f19 := Tryz.func284.trans (congrArg some (by kernel_rfl))
  f20 := Tryz.func285.trans (congrArg some (by kernel_rfl))
  f30 := ⟨Tryz.f323.name, by decide, Tryz.func323.trans (congrArg some (by kernel_rfl))⟩
  f31 := Tryz.func324.trans (congrArg some (by kernel_rfl))
  f32 := Tryz.func325.trans (congrArg some (by kernel_rfl))
  f33 := ⟨Tryz.f326.name, by decide, Tryz.func326.trans (congrArg some (by kernel_rfl))⟩
  f34 := ⟨Tryz.f327.name, by decide, Tryz.func327.trans (congrArg some (by kernel_rfl))⟩
  f35 := ⟨Tryz.f306.name, by decide, Tryz.func306.trans (congrArg some (by kernel_rfl))⟩
  f40 := ⟨Tryz.f348.name, by decide, Tryz.func348.trans (congrArg some (by kernel_rfl))⟩
  t0 := Tryz.underlying0
  a0 := Tryz.isAgg0
  z0 := Tryz.sizeOf0
  v0 := Tryz.zeroValue0
  t3 := Tryz.underlying3
  a3 := Tryz.isAgg3
  z3 := Tryz.sizeOf3
  v3 := Tryz.zeroValue3
  t4 := Tryz.underlying4
  a4 := Tryz.isAgg4
  z4 := Tryz.sizeOf4
  v4 := Tryz.zeroValue4
  t5 := Tryz.underlying5
  a5 := Tryz.isAgg5
  z5 := Tryz.sizeOf5
  v5 := Tryz.zeroValue5
  t9 := Tryz.underlying9
  a9 := Tryz.isAgg9
  z9 := Tryz.sizeOf9
  v9 := Tryz.zeroValue9
  t22 := Tryz.underlying58
  a22 := Tryz.isAgg58
  z22 := Tryz.sizeOf58
  v22 := Tryz.zeroValue58
  t23 := Tryz.underlying58
  a23 := Tryz.isAgg58
  z23 := Tryz.sizeOf58
  v23 := Tryz.zeroValue58
  t25 := Tryz.underlying3
  a25 := Tryz.isAgg3
  z25 := Tryz.sizeOf3
  v25 := Tryz.zeroValue3
  t32 := Tryz.underlying52
  a32 := Tryz.isAgg52
  z32 := Tryz.sizeOf52
  v32 := Tryz.zeroValue52
  t35 := Tryz.underlying355
  a35 := Tryz.isAgg355
  z35 := Tryz.sizeOf355
  v35 := Tryz.zeroValue355
  t36 := Tryz.underlying356
  a36 := Tryz.isAgg356
  z36 := Tryz.sizeOf356
  v36 := Tryz.zeroValue356
  t41 := Tryz.underlying282
  a41 := Tryz.isAgg282
  z41 := Tryz.sizeOf282
  v41 := Tryz.zeroValue282
  t44 := Tryz.underlying362
  a44 := Tryz.isAgg362
  z44 := Tryz.sizeOf362
  v44 := Tryz.zeroValue362
  t46 := Tryz.underlying29
  a46 := Tryz.isAgg29
  z46 := Tryz.sizeOf29
  v46 := Tryz.zeroValue29
  t53 := Tryz.underlying384
  a53 := Tryz.isAgg384
  z53 := Tryz.sizeOf384
  v53 := Tryz.zeroValue384
  t57 := Tryz.underlying104
  a57 := Tryz.isAgg104
  z57 := Tryz.sizeOf104
  v57 := Tryz.zeroValue104
  t63 := Tryz.underlying403
  a63 := Tryz.isAgg403
  z63 := Tryz.sizeOf403
  v63 := Tryz.zeroValue403
  t64 := Tryz.underlying404
  a64 := Tryz.isAgg404
  z64 := Tryz.sizeOf404
  v64 := Tryz.zeroValue404 }
end Go.Proofs
