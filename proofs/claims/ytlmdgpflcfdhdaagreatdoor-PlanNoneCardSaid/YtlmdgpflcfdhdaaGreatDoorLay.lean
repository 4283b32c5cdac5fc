/-
  DERIVED: THE SHELF's CONTRACTS AT THIS DUMP, IN PLAIN WORDS (tools/lay-plain.mjs out of 'YtlmdgpflcfdhdaaGreatDoorShelf.lean', which tools/lay-shelf.mjs wrote): THE SAME DECLARATIONS UNDER THE SAME NAMES: 'import', 'namespace', 'open', 'def', 'theorem' AND NOTHING ELSE: no command of the shelf's: FOR A HAND-IN. Each laying: the table of numbers ('.._ren') and one theorem, a field a fact of the dump's own or the kernel's comparison; each contract: ONE APPLICATION.
-/
import Derived.Shelf.SlGeneric
import Derived.Shelf.SlIterI.Nil
import Derived.Shelf.SlIter.Nil
import Derived.Shelf.SortM.Plain
import Derived.Shelf.SortM.SortNone
import Derived.Ground.GgzProg
import Derived.Ground.SlgmProg
import Derived.Test.YtlmdgpflcfdhdaaGreatDoorProg
namespace Go.Proofs
open Go.Shelf
def Tryz.keys140_ren : Go.Shelf.Ren := ⟨fun | 7 => 140 | 10 => 186 | n => n, fun | 23 => 132 | 26 => 2 | 3 => 3 | 28 => 257 | 0 => 0 | 27 => 256 | 33 => 321 | 4 => 4 | n => n, fun | n => n⟩
theorem Tryz.keys140 : Go.Proofs.SlLaysZI.n7 Tryz.prog Tryz.keys140_ren := {
  mixed := by kernel_rfl
  f7 := ⟨Tryz.f140.name, by decide, Tryz.func140.trans (congrArg some (by kernel_rfl))⟩
  f10 := ⟨Tryz.f186.name, by decide, Tryz.func186.trans (congrArg some (by kernel_rfl))⟩
  t0 := Tryz.underlying0
  a0 := Tryz.isAgg0
  z0 := Tryz.sizeOf0
  v0 := Tryz.zeroValue0
  t4 := Tryz.underlying4
  a4 := Tryz.isAgg4
  z4 := Tryz.sizeOf4
  v4 := Tryz.zeroValue4
  t23 := Tryz.underlying132
  a23 := Tryz.isAgg132
  z23 := Tryz.sizeOf132
  v23 := Tryz.zeroValue132
  t26 := Tryz.underlying2
  a26 := Tryz.isAgg2
  z26 := Tryz.sizeOf2
  v26 := Tryz.zeroValue2
  t27 := Tryz.underlying256
  a27 := Tryz.isAgg256
  z27 := Tryz.sizeOf256
  v27 := Tryz.zeroValue256
  t28 := Tryz.underlying257
  a28 := Tryz.isAgg257
  z28 := Tryz.sizeOf257
  v28 := Tryz.zeroValue257
  t33 := Tryz.underlying321
  a33 := Tryz.isAgg321
  z33 := Tryz.sizeOf321
  v33 := Tryz.zeroValue321 }
def Tryz.sorted139_ren : Go.Shelf.Ren := ⟨fun | 6 => 139 | 8 => 184 | 9 => 185 | 11 => 220 | 13 => 222 | 12 => 221 | 23 => 277 | 24 => 278 | 14 => 268 | 15 => 269 | 16 => 270 | 17 => 271 | 18 => 272 | 19 => 273 | 20 => 274 | 21 => 275 | 22 => 276 | 25 => 313 | 26 => 314 | 27 => 315 | 28 => 316 | 29 => 317 | 30 => 285 | 31 => 344 | n => n, fun | 26 => 2 | 28 => 257 | 24 => 191 | 0 => 0 | 3 => 3 | 37 => 294 | 48 => 412 | 50 => 242 | 4 => 4 | 40 => 405 | 39 => 404 | 45 => 129 | 5 => 5 | 9 => 9 | 51 => 452 | 55 => 456 | 57 => 474 | 58 => 422 | 33 => 321 | n => n, fun | n => n⟩
theorem Tryz.sorted139 : Go.Proofs.SlLaysZI.n6 Tryz.prog Tryz.sorted139_ren := {
  mixed := by kernel_rfl
  f6 := ⟨Tryz.f139.name, by decide, Tryz.func139.trans (congrArg some (by kernel_rfl))⟩
  f8 := ⟨Tryz.f184.name, by decide, Tryz.func184.trans (congrArg some (by kernel_rfl))⟩
  f11 := ⟨Tryz.f220.name, by decide, Tryz.func220.trans (congrArg some (by kernel_rfl))⟩
  t0 := Tryz.underlying0
  a0 := Tryz.isAgg0
  z0 := Tryz.sizeOf0
  v0 := Tryz.zeroValue0
  t24 := Tryz.underlying191
  a24 := Tryz.isAgg191
  z24 := Tryz.sizeOf191
  v24 := Tryz.zeroValue191
  t26 := Tryz.underlying2
  a26 := Tryz.isAgg2
  z26 := Tryz.sizeOf2
  v26 := Tryz.zeroValue2
  t28 := Tryz.underlying257
  a28 := Tryz.isAgg257
  z28 := Tryz.sizeOf257
  v28 := Tryz.zeroValue257
  i26 := by kernel_rfl }
def Tryz.sort185_ren : Go.Shelf.Ren := ⟨fun | 5 => 185 | 8 => 222 | 7 => 221 | 19 => 277 | 20 => 278 | 10 => 268 | 11 => 269 | 12 => 270 | 13 => 271 | 14 => 272 | 15 => 273 | 16 => 274 | 17 => 275 | 18 => 276 | 30 => 313 | 31 => 314 | 32 => 315 | 33 => 316 | 34 => 317 | 35 => 285 | 40 => 344 | n => n, fun | 23 => 191 | 25 => 2 | 3 => 3 | 32 => 294 | 22 => 191 | 0 => 0 | 44 => 412 | 46 => 242 | 4 => 4 | 36 => 405 | 35 => 404 | 41 => 129 | 5 => 5 | 9 => 9 | 53 => 452 | 57 => 456 | 63 => 474 | 64 => 422 | n => n, fun | n => n⟩
theorem Tryz.sort185 : Go.Proofs.SlLaysM.n5 Tryz.prog Tryz.sort185_ren := {
  mixed := by kernel_rfl
  f5 := ⟨Tryz.f185.name, by decide, Tryz.func185.trans (congrArg some (by kernel_rfl))⟩
  f7 := ⟨Tryz.f221.name, by decide, Tryz.func221.trans (congrArg some (by kernel_rfl))⟩
  f8 := Tryz.func222.trans (congrArg some (by kernel_rfl))
  f10 := ⟨Tryz.f268.name, by decide, Tryz.func268.trans (congrArg some (by kernel_rfl))⟩
  f11 := ⟨Tryz.f269.name, by decide, Tryz.func269.trans (congrArg some (by kernel_rfl))⟩
  f12 := ⟨Tryz.f270.name, by decide, Tryz.func270.trans (congrArg some (by kernel_rfl))⟩
  f13 := ⟨Tryz.f271.name, by decide, Tryz.func271.trans (congrArg some (by kernel_rfl))⟩
  f14 := ⟨Tryz.f272.name, by decide, Tryz.func272.trans (congrArg some (by kernel_rfl))⟩
  f15 := ⟨Tryz.f273.name, by decide, Tryz.func273.trans (congrArg some (by kernel_rfl))⟩
  f16 := ⟨Tryz.f274.name, by decide, Tryz.func274.trans (congrArg some (by kernel_rfl))⟩
  f17 := ⟨Tryz.f275.name, by decide, Tryz.func275.trans (congrArg some (by kernel_rfl))⟩
  f18 := ⟨Tryz.f276.name, by decide, Tryz.func276.trans (congrArg some (by kernel_rfl))⟩
  f19 := Tryz.func277.trans (congrArg some (by kernel_rfl))
  f20 := Tryz.func278.trans (congrArg some (by kernel_rfl))
  f30 := ⟨Tryz.f313.name, by decide, Tryz.func313.trans (congrArg some (by kernel_rfl))⟩
  f31 := Tryz.func314.trans (congrArg some (by kernel_rfl))
  f32 := Tryz.func315.trans (congrArg some (by kernel_rfl))
  f33 := ⟨Tryz.f316.name, by decide, Tryz.func316.trans (congrArg some (by kernel_rfl))⟩
  f34 := ⟨Tryz.f317.name, by decide, Tryz.func317.trans (congrArg some (by kernel_rfl))⟩
  f35 := ⟨Tryz.f285.name, by decide, Tryz.func285.trans (congrArg some (by kernel_rfl))⟩
  f40 := ⟨Tryz.f344.name, by decide, Tryz.func344.trans (congrArg some (by kernel_rfl))⟩
  t0 := Tryz.underlying0
  a0 := Tryz.isAgg0
  z0 := Tryz.sizeOf0
  v0 := Tryz.zeroValue0
  t3 := Tryz.underlying3
  a3 := Tryz.isAgg3
  z3 := Tryz.sizeOf3
  v3 := Tryz.zeroValue3
  t4 := Tryz.underlying4
  a4 := Tryz.isAgg4
  z4 := Tryz.sizeOf4
  v4 := Tryz.zeroValue4
  t5 := Tryz.underlying5
  a5 := Tryz.isAgg5
  z5 := Tryz.sizeOf5
  v5 := Tryz.zeroValue5
  t9 := Tryz.underlying9
  a9 := Tryz.isAgg9
  z9 := Tryz.sizeOf9
  v9 := Tryz.zeroValue9
  t22 := Tryz.underlying191
  a22 := Tryz.isAgg191
  z22 := Tryz.sizeOf191
  v22 := Tryz.zeroValue191
  t23 := Tryz.underlying191
  a23 := Tryz.isAgg191
  z23 := Tryz.sizeOf191
  v23 := Tryz.zeroValue191
  t25 := Tryz.underlying2
  a25 := Tryz.isAgg2
  z25 := Tryz.sizeOf2
  v25 := Tryz.zeroValue2
  t32 := Tryz.underlying294
  a32 := Tryz.isAgg294
  z32 := Tryz.sizeOf294
  v32 := Tryz.zeroValue294
  t35 := Tryz.underlying404
  a35 := Tryz.isAgg404
  z35 := Tryz.sizeOf404
  v35 := Tryz.zeroValue404
  t36 := Tryz.underlying405
  a36 := Tryz.isAgg405
  z36 := Tryz.sizeOf405
  v36 := Tryz.zeroValue405
  t41 := Tryz.underlying129
  a41 := Tryz.isAgg129
  z41 := Tryz.sizeOf129
  v41 := Tryz.zeroValue129
  t44 := Tryz.underlying412
  a44 := Tryz.isAgg412
  z44 := Tryz.sizeOf412
  v44 := Tryz.zeroValue412
  t46 := Tryz.underlying242
  a46 := Tryz.isAgg242
  z46 := Tryz.sizeOf242
  v46 := Tryz.zeroValue242
  t53 := Tryz.underlying452
  a53 := Tryz.isAgg452
  z53 := Tryz.sizeOf452
  v53 := Tryz.zeroValue452
  t57 := Tryz.underlying456
  a57 := Tryz.isAgg456
  z57 := Tryz.sizeOf456
  v57 := Tryz.zeroValue456
  t63 := Tryz.underlying474
  a63 := Tryz.isAgg474
  z63 := Tryz.sizeOf474
  v63 := Tryz.zeroValue474
  t64 := Tryz.underlying422
  a64 := Tryz.isAgg422
  z64 := Tryz.sizeOf422
  v64 := Tryz.zeroValue422 }
end Go.Proofs
