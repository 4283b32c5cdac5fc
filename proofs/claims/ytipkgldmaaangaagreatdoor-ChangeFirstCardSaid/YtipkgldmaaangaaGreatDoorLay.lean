/-
  DERIVED: THE SHELF's CONTRACTS AT THIS DUMP, IN PLAIN WORDS (tools/lay-plain.mjs out of 'YtipkgldmaaangaaGreatDoorShelf.lean', which tools/lay-shelf.mjs wrote): THE SAME DECLARATIONS UNDER THE SAME NAMES: 'import', 'namespace', 'open', 'def', 'theorem' AND NOTHING ELSE: no command of the shelf's: FOR A HAND-IN. Each laying: the table of numbers ('.._ren') and one theorem, a field a fact of the dump's own or the kernel's comparison; each contract: ONE APPLICATION.
-/
import Derived.Shelf.SlGeneric
import Derived.Shelf.SlIterI.Nil
import Derived.Shelf.SlIter.Nil
import Derived.Shelf.SortM.Plain
import Derived.Shelf.SortM.SortNone
import Derived.Ground.GgzProg
import Derived.Ground.SlgmProg
import Derived.Test.YtipkgldmaaangaaGreatDoorProg
namespace Go.Proofs
open Go.Shelf
def Tryz.keys151_ren : Go.Shelf.Ren := ⟨fun | 7 => 151 | 10 => 204 | n => n, fun | 23 => 129 | 26 => 2 | 3 => 3 | 28 => 250 | 0 => 0 | 27 => 249 | 33 => 278 | 4 => 4 | n => n, fun | n => n⟩
theorem Tryz.keys151 : Go.Proofs.SlLaysZI.n7 Tryz.prog Tryz.keys151_ren := {
  mixed := by kernel_rfl
  f7 := ⟨Tryz.f151.name, by decide, Tryz.func151.trans (congrArg some (by kernel_rfl))⟩
  f10 := ⟨Tryz.f204.name, by decide, Tryz.func204.trans (congrArg some (by kernel_rfl))⟩
  t0 := Tryz.underlying0
  a0 := Tryz.isAgg0
  z0 := Tryz.sizeOf0
  v0 := Tryz.zeroValue0
  t4 := Tryz.underlying4
  a4 := Tryz.isAgg4
  z4 := Tryz.sizeOf4
  v4 := Tryz.zeroValue4
  t23 := Tryz.underlying129
  a23 := Tryz.isAgg129
  z23 := Tryz.sizeOf129
  v23 := Tryz.zeroValue129
  t26 := Tryz.underlying2
  a26 := Tryz.isAgg2
  z26 := Tryz.sizeOf2
  v26 := Tryz.zeroValue2
  t27 := Tryz.underlying249
  a27 := Tryz.isAgg249
  z27 := Tryz.sizeOf249
  v27 := Tryz.zeroValue249
  t28 := Tryz.underlying250
  a28 := Tryz.isAgg250
  z28 := Tryz.sizeOf250
  v28 := Tryz.zeroValue250
  t33 := Tryz.underlying278
  a33 := Tryz.isAgg278
  z33 := Tryz.sizeOf278
  v33 := Tryz.zeroValue278 }
def Tryz.sorted150_ren : Go.Shelf.Ren := ⟨fun | 6 => 150 | 8 => 202 | 9 => 203 | 11 => 242 | 13 => 244 | 12 => 243 | 23 => 281 | 24 => 282 | 14 => 273 | 15 => 274 | 16 => 275 | 17 => 276 | 18 => 277 | 19 => 278 | 20 => 217 | 21 => 279 | 22 => 280 | 25 => 304 | 26 => 305 | 27 => 306 | 28 => 307 | 29 => 308 | 30 => 213 | 31 => 318 | n => n, fun | 26 => 2 | 28 => 250 | 24 => 193 | 0 => 0 | 3 => 3 | 37 => 310 | 48 => 391 | 50 => 190 | 4 => 4 | 40 => 385 | 39 => 384 | 45 => 127 | 5 => 5 | 9 => 9 | 51 => 416 | 55 => 420 | 57 => 429 | 58 => 330 | 33 => 278 | n => n, fun | n => n⟩
theorem Tryz.sorted150 : Go.Proofs.SlLaysZI.n6 Tryz.prog Tryz.sorted150_ren := {
  mixed := by kernel_rfl
  f6 := ⟨Tryz.f150.name, by decide, Tryz.func150.trans (congrArg some (by kernel_rfl))⟩
  f8 := ⟨Tryz.f202.name, by decide, Tryz.func202.trans (congrArg some (by kernel_rfl))⟩
  f11 := ⟨Tryz.f242.name, by decide, Tryz.func242.trans (congrArg some (by kernel_rfl))⟩
  t0 := Tryz.underlying0
  a0 := Tryz.isAgg0
  z0 := Tryz.sizeOf0
  v0 := Tryz.zeroValue0
  t24 := Tryz.underlying193
  a24 := Tryz.isAgg193
  z24 := Tryz.sizeOf193
  v24 := Tryz.zeroValue193
  t26 := Tryz.underlying2
  a26 := Tryz.isAgg2
  z26 := Tryz.sizeOf2
  v26 := Tryz.zeroValue2
  t28 := Tryz.underlying250
  a28 := Tryz.isAgg250
  z28 := Tryz.sizeOf250
  v28 := Tryz.zeroValue250
  i26 := by kernel_rfl }
def Tryz.sort203_ren : Go.Shelf.Ren := ⟨fun | 5 => 203 | 8 => 244 | 7 => 243 | 19 => 281 | 20 => 282 | 10 => 273 | 11 => 274 | 12 => 275 | 13 => 276 | 14 => 277 | 15 => 278 | 16 => 217 | 17 => 279 | 18 => 280 | 30 => 304 | 31 => 305 | 32 => 306 | 33 => 307 | 34 => 308 | 35 => 213 | 40 => 318 | n => n, fun | 23 => 193 | 25 => 2 | 3 => 3 | 32 => 310 | 22 => 193 | 0 => 0 | 44 => 391 | 46 => 190 | 4 => 4 | 36 => 385 | 35 => 384 | 41 => 127 | 5 => 5 | 9 => 9 | 53 => 416 | 57 => 420 | 63 => 429 | 64 => 330 | n => n, fun | n => n⟩
theorem Tryz.sort203 : Go.Proofs.SlLaysM.n5 Tryz.prog Tryz.sort203_ren := {
  mixed := by kernel_rfl
  f5 := ⟨Tryz.f203.name, by decide, Tryz.func203.trans (congrArg some (by kernel_rfl))⟩
  f7 := ⟨Tryz.f243.name, by decide, Tryz.func243.trans (congrArg some (by kernel_rfl))⟩
  f8 := Tryz.func244.trans (congrArg some (by kernel_rfl))
  f10 := ⟨Tryz.f273.name, by decide, Tryz.func273.trans (congrArg some (by kernel_rfl))⟩
  f11 := ⟨Tryz.f274.name, by decide, Tryz.func274.trans (congrArg some (by kernel_rfl))⟩
  f12 := ⟨Tryz.f275.name, by decide, Tryz.func275.trans (congrArg some (by kernel_rfl))⟩
  f13 := ⟨Tryz.f276.name, by decide, Tryz.func276.trans (congrArg some (by kernel_rfl))⟩
  f14 := ⟨Tryz.f277.name, by decide, Tryz.func277.trans (congrArg some (by kernel_rfl))⟩
  f15 := ⟨Tryz.f278.name, by decide, Tryz.func278.trans (congrArg some (by kernel_rfl))⟩
  f16 := ⟨Tryz.f217.name, by decide, Tryz.func217.trans (congrArg some (by kernel_rfl))⟩
  f17 := ⟨Tryz.f279.name, by decide, Tryz.func279.trans (congrArg some (by kernel_rfl))⟩
  f18 := ⟨Tryz.f280.name, by decide, Tryz.func280.trans (congrArg some (by kernel_rfl))⟩
  f19 := Tryz.func281.trans (congrArg some (by kernel_rfl))
  f20 := Tryz.func282.trans (congrArg some (by kernel_rfl))
  f30 := ⟨Tryz.f304.name, by decide, Tryz.func304.trans (congrArg some (by kernel_rfl))⟩
  f31 := Tryz.func305.trans (congrArg some (by kernel_rfl))
  f32 := Tryz.func306.trans (congrArg some (by kernel_rfl))
  f33 := ⟨Tryz.f307.name, by decide, Tryz.func307.trans (congrArg some (by kernel_rfl))⟩
  f34 := ⟨Tryz.f308.name, by decide, Tryz.func308.trans (congrArg some (by kernel_rfl))⟩
  f35 := ⟨Tryz.f213.name, by decide, Tryz.func213.trans (congrArg some (by kernel_rfl))⟩
  f40 := ⟨Tryz.f318.name, by decide, Tryz.func318.trans (congrArg some (by kernel_rfl))⟩
  t0 := Tryz.underlying0
  a0 := Tryz.isAgg0
  z0 := Tryz.sizeOf0
  v0 := Tryz.zeroValue0
  t3 := Tryz.underlying3
  a3 := Tryz.isAgg3
  z3 := Tryz.sizeOf3
  v3 := Tryz.zeroValue3
  t4 := Tryz.underlying4
  a4 := Tryz.isAgg4
  z4 := Tryz.sizeOf4
  v4 := Tryz.zeroValue4
  t5 := Tryz.underlying5
  a5 := Tryz.isAgg5
  z5 := Tryz.sizeOf5
  v5 := Tryz.zeroValue5
  t9 := Tryz.underlying9
  a9 := Tryz.isAgg9
  z9 := Tryz.sizeOf9
  v9 := Tryz.zeroValue9
  t22 := Tryz.underlying193
  a22 := Tryz.isAgg193
  z22 := Tryz.sizeOf193
  v22 := Tryz.zeroValue193
  t23 := Tryz.underlying193
  a23 := Tryz.isAgg193
  z23 := Tryz.sizeOf193
  v23 := Tryz.zeroValue193
  t25 := Tryz.underlying2
  a25 := Tryz.isAgg2
  z25 := Tryz.sizeOf2
  v25 := Tryz.zeroValue2
  t32 := Tryz.underlying310
  a32 := Tryz.isAgg310
  z32 := Tryz.sizeOf310
  v32 := Tryz.zeroValue310
  t35 := Tryz.underlying384
  a35 := Tryz.isAgg384
  z35 := Tryz.sizeOf384
  v35 := Tryz.zeroValue384
  t36 := Tryz.underlying385
  a36 := Tryz.isAgg385
  z36 := Tryz.sizeOf385
  v36 := Tryz.zeroValue385
  t41 := Tryz.underlying127
  a41 := Tryz.isAgg127
  z41 := Tryz.sizeOf127
  v41 := Tryz.zeroValue127
  t44 := Tryz.underlying391
  a44 := Tryz.isAgg391
  z44 := Tryz.sizeOf391
  v44 := Tryz.zeroValue391
  t46 := Tryz.underlying190
  a46 := Tryz.isAgg190
  z46 := Tryz.sizeOf190
  v46 := Tryz.zeroValue190
  t53 := Tryz.underlying416
  a53 := Tryz.isAgg416
  z53 := Tryz.sizeOf416
  v53 := Tryz.zeroValue416
  t57 := Tryz.underlying420
  a57 := Tryz.isAgg420
  z57 := Tryz.sizeOf420
  v57 := Tryz.zeroValue420
  t63 := Tryz.underlying429
  a63 := Tryz.isAgg429
  z63 := Tryz.sizeOf429
  v63 := Tryz.zeroValue429
  t64 := Tryz.underlying330
  a64 := Tryz.isAgg330
  z64 := Tryz.sizeOf330
  v64 := Tryz.zeroValue330 }
end Go.Proofs
