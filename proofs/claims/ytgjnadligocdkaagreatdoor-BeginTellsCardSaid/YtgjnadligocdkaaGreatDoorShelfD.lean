/-
  DERIVED: THE SHELF's CONTRACTS AT THIS DUMP, IN PLAIN WORDS (tools/lay-plain.mjs out of 'YtgjnadligocdkaaGreatDoorMoreQ.lean', which tools/lay-shelf.mjs wrote): THE SAME DECLARATIONS UNDER THE SAME NAMES: 'import', 'namespace', 'open', 'def', 'theorem' AND NOTHING ELSE: no command of the shelf's: FOR A HAND-IN. Each laying: the table of numbers ('.._ren') and one theorem, a field a fact of the dump's own or the kernel's comparison; each contract: ONE APPLICATION.
-/
import Derived.Shelf.SlGeneric
import Derived.Shelf.SlIterI.Nil
import Derived.Shelf.SlIterI.Sorted
import Derived.Shelf.SortM.Plain
import Derived.Shelf.SortM.SortNone
import Derived.Ground.GgzProg
import Derived.Ground.SlgmProg
import Derived.Test.YtgjnadligocdkaaGreatDoorProg
namespace Go.Proofs
open Go.Shelf
def Tryz.keysA_ren : Go.Shelf.Ren := ⟨fun | 7 => 231 | 10 => 268 | n => n, fun | 23 => 153 | 26 => 3 | 3 => 137 | 28 => 312 | 0 => 0 | 27 => 311 | 33 => 129 | 4 => 4 | n => n, fun | n => n⟩
theorem Tryz.keysA : Go.Proofs.SlLaysZI.n7 Tryz.prog Tryz.keysA_ren := {
  mixed := by kernel_rfl
  f7 := ⟨Tryz.f231.name, by decide, Tryz.func231.trans (congrArg some (by kernel_rfl))⟩
  f10 := ⟨Tryz.f268.name, by decide, Tryz.func268.trans (congrArg some (by kernel_rfl))⟩
  t0 := Tryz.underlying0
  a0 := Tryz.isAgg0
  z0 := Tryz.sizeOf0
  v0 := Tryz.zeroValue0
  t4 := Tryz.underlying4
  a4 := Tryz.isAgg4
  z4 := Tryz.sizeOf4
  v4 := Tryz.zeroValue4
  t23 := Tryz.underlying153
  a23 := Tryz.isAgg153
  z23 := Tryz.sizeOf153
  v23 := Tryz.zeroValue153
  t26 := Tryz.underlying3
  a26 := Tryz.isAgg3
  z26 := Tryz.sizeOf3
  v26 := Tryz.zeroValue3
  t27 := Tryz.underlying311
  a27 := Tryz.isAgg311
  z27 := Tryz.sizeOf311
  v27 := Tryz.zeroValue311
  t28 := Tryz.underlying312
  a28 := Tryz.isAgg312
  z28 := Tryz.sizeOf312
  v28 := Tryz.zeroValue312
  t33 := Tryz.underlying129
  a33 := Tryz.isAgg129
  z33 := Tryz.sizeOf129
  v33 := Tryz.zeroValue129 }
def Tryz.sortedA_ren : Go.Shelf.Ren := ⟨fun | 6 => 230 | 8 => 267 | 9 => 210 | 11 => 297 | 13 => 255 | 12 => 254 | 23 => 282 | 24 => 283 | 14 => 274 | 15 => 275 | 16 => 276 | 17 => 277 | 18 => 278 | 19 => 279 | 20 => 205 | 21 => 280 | 22 => 281 | 25 => 300 | 26 => 301 | 27 => 302 | 28 => 303 | 29 => 304 | 30 => 251 | 31 => 313 | n => n, fun | 26 => 3 | 28 => 312 | 24 => 42 | 0 => 0 | 3 => 3 | 37 => 196 | 48 => 353 | 50 => 33 | 4 => 4 | 40 => 347 | 39 => 346 | 45 => 259 | 5 => 5 | 9 => 9 | 51 => 368 | 55 => 371 | 57 => 376 | 58 => 49 | 33 => 129 | n => n, fun | n => n⟩
theorem Tryz.sortedA : Go.Proofs.SlLaysZI.n6 Tryz.prog Tryz.sortedA_ren := {
  mixed := by kernel_rfl
  f6 := ⟨Tryz.f230.name, by decide, Tryz.func230.trans (congrArg some (by kernel_rfl))⟩
  f8 := ⟨Tryz.f267.name, by decide, Tryz.func267.trans (congrArg some (by kernel_rfl))⟩
  f11 := ⟨Tryz.f297.name, by decide, Tryz.func297.trans (congrArg some (by kernel_rfl))⟩
  t0 := Tryz.underlying0
  a0 := Tryz.isAgg0
  z0 := Tryz.sizeOf0
  v0 := Tryz.zeroValue0
  t24 := Tryz.underlying42
  a24 := Tryz.isAgg42
  z24 := Tryz.sizeOf42
  v24 := Tryz.zeroValue42
  t26 := Tryz.underlying3
  a26 := Tryz.isAgg3
  z26 := Tryz.sizeOf3
  v26 := Tryz.zeroValue3
  t28 := Tryz.underlying312
  a28 := Tryz.isAgg312
  z28 := Tryz.sizeOf312
  v28 := Tryz.zeroValue312
  i26 := by kernel_rfl }
def Tryz.sortA_ren : Go.Shelf.Ren := ⟨fun | 5 => 210 | 8 => 255 | 7 => 254 | 19 => 282 | 20 => 283 | 10 => 274 | 11 => 275 | 12 => 276 | 13 => 277 | 14 => 278 | 15 => 279 | 16 => 205 | 17 => 280 | 18 => 281 | 30 => 300 | 31 => 301 | 32 => 302 | 33 => 303 | 34 => 304 | 35 => 251 | 40 => 313 | n => n, fun | 23 => 42 | 25 => 3 | 3 => 3 | 32 => 196 | 22 => 42 | 0 => 0 | 44 => 353 | 46 => 33 | 4 => 4 | 36 => 347 | 35 => 346 | 41 => 259 | 5 => 5 | 9 => 9 | 53 => 368 | 57 => 371 | 63 => 376 | 64 => 49 | n => n, fun | n => n⟩
theorem Tryz.sortA : Go.Proofs.SlLaysM.n5 Tryz.prog Tryz.sortA_ren := {
  mixed := by kernel_rfl
  f5 := ⟨Tryz.f210.name, by decide, Tryz.func210.trans (congrArg some (by kernel_rfl))⟩
  f7 := ⟨Tryz.f254.name, by decide, Tryz.func254.trans (congrArg some (by kernel_rfl))⟩
  f8 := Tryz.func255.trans (congrArg some (by kernel_rfl))
  f10 := ⟨Tryz.f274.name, by decide, Tryz.func274.trans (congrArg some (by kernel_rfl))⟩
  f11 := ⟨Tryz.f275.name, by decide, Tryz.func275.trans (congrArg some (by kernel_rfl))⟩
  f12 := ⟨Tryz.f276.name, by decide, Tryz.func276.trans (congrArg some (by kernel_rfl))⟩
  f13 := ⟨Tryz.f277.name, by decide, Tryz.func277.trans (congrArg some (by kernel_rfl))⟩
  f14 := ⟨Tryz.f278.name, by decide, Tryz.func278.trans (congrArg some (by kernel_rfl))⟩
  f15 := ⟨Tryz.f279.name, by decide, Tryz.func279.trans (congrArg some (by kernel_rfl))⟩
  f16 := ⟨Tryz.f205.name, by decide, Tryz.func205.trans (congrArg some (by kernel_rfl))⟩
  f17 := ⟨Tryz.f280.name, by decide, Tryz.func280.trans (congrArg some (by kernel_rfl))⟩
  f18 := ⟨Tryz.f281.name, by decide, Tryz.func281.trans (congrArg some (by kernel_rfl))⟩
  f19 := Tryz.func282.trans (congrArg some (by kernel_rfl))
  f20 := Tryz.func283.trans (congrArg some (by kernel_rfl))
  f30 := ⟨Tryz.f300.name, by decide, Tryz.func300.trans (congrArg some (by kernel_rfl))⟩
  f31 := Tryz.func301.trans (congrArg some (by kernel_rfl))
  f32 := Tryz.func302.trans (congrArg some (by kernel_rfl))
  f33 := ⟨Tryz.f303.name, by decide, Tryz.func303.trans (congrArg some (by kernel_rfl))⟩
  f34 := ⟨Tryz.f304.name, by decide, Tryz.func304.trans (congrArg some (by kernel_rfl))⟩
  f35 := ⟨Tryz.f251.name, by decide, Tryz.func251.trans (congrArg some (by kernel_rfl))⟩
  f40 := ⟨Tryz.f313.name, by decide, Tryz.func313.trans (congrArg some (by kernel_rfl))⟩
  t0 := Tryz.underlying0
  a0 := Tryz.isAgg0
  z0 := Tryz.sizeOf0
  v0 := Tryz.zeroValue0
  t3 := Tryz.underlying3
  a3 := Tryz.isAgg3
  z3 := Tryz.sizeOf3
  v3 := Tryz.zeroValue3
  t4 := Tryz.underlying4
  a4 := Tryz.isAgg4
  z4 := Tryz.sizeOf4
  v4 := Tryz.zeroValue4
  t5 := Tryz.underlying5
  a5 := Tryz.isAgg5
  z5 := Tryz.sizeOf5
  v5 := Tryz.zeroValue5
  t9 := Tryz.underlying9
  a9 := Tryz.isAgg9
  z9 := Tryz.sizeOf9
  v9 := Tryz.zeroValue9
  t22 := Tryz.underlying42
  a22 := Tryz.isAgg42
  z22 := Tryz.sizeOf42
  v22 := Tryz.zeroValue42
  t23 := Tryz.underlying42
  a23 := Tryz.isAgg42
  z23 := Tryz.sizeOf42
  v23 := Tryz.zeroValue42
  t25 := Tryz.underlying3
  a25 := Tryz.isAgg3
  z25 := Tryz.sizeOf3
  v25 := Tryz.zeroValue3
  t32 := Tryz.underlying196
  a32 := Tryz.isAgg196
  z32 := Tryz.sizeOf196
  v32 := Tryz.zeroValue196
  t35 := Tryz.underlying346
  a35 := Tryz.isAgg346
  z35 := Tryz.sizeOf346
  v35 := Tryz.zeroValue346
  t36 := Tryz.underlying347
  a36 := Tryz.isAgg347
  z36 := Tryz.sizeOf347
  v36 := Tryz.zeroValue347
  t41 := Tryz.underlying259
  a41 := Tryz.isAgg259
  z41 := Tryz.sizeOf259
  v41 := Tryz.zeroValue259
  t44 := Tryz.underlying353
  a44 := Tryz.isAgg353
  z44 := Tryz.sizeOf353
  v44 := Tryz.zeroValue353
  t46 := Tryz.underlying33
  a46 := Tryz.isAgg33
  z46 := Tryz.sizeOf33
  v46 := Tryz.zeroValue33
  t53 := Tryz.underlying368
  a53 := Tryz.isAgg368
  z53 := Tryz.sizeOf368
  v53 := Tryz.zeroValue368
  t57 := Tryz.underlying371
  a57 := Tryz.isAgg371
  z57 := Tryz.sizeOf371
  v57 := Tryz.zeroValue371
  t63 := Tryz.underlying376
  a63 := Tryz.isAgg376
  z63 := Tryz.sizeOf376
  v63 := Tryz.zeroValue376
  t64 := Tryz.underlying49
  a64 := Tryz.isAgg49
  z64 := Tryz.sizeOf49
  v64 := Tryz.zeroValue49 }
end Go.Proofs
