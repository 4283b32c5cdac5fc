/-
  DERIVED: THE SHELF's CONTRACTS AT THIS DUMP, IN PLAIN WORDS (tools/lay-plain.mjs out of 'YtpbfiddnnpmblaaGreatDoorShelf.lean', which tools/lay-shelf.mjs wrote): THE SAME DECLARATIONS UNDER THE SAME NAMES: 'import', 'namespace', 'open', 'def', 'theorem' AND NOTHING ELSE: no command of the shelf's: FOR A HAND-IN. Each laying: the table of numbers ('.._ren') and one theorem, a field a fact of the dump's own or the kernel's comparison; each contract: ONE APPLICATION.
-/
import Derived.Shelf.SlGeneric
import Derived.Shelf.SlIterI.Nil
import Derived.Shelf.SlIter.Nil
import Derived.Shelf.SortM.Plain
import Derived.Shelf.SortM.SortNone
import Derived.Ground.GgzProg
import Derived.Ground.SlgmProg
import Derived.Test.YtpbfiddnnpmblaaGreatDoorProg
namespace Go.Proofs
open Go.Shelf
def Tryz.keys153_ren : Go.Shelf.Ren := ⟨fun | 7 => 153 | 10 => 205 | n => n, fun | 23 => 98 | 26 => 2 | 3 => 3 | 28 => 251 | 0 => 0 | 27 => 250 | 33 => 276 | 4 => 4 | n => n, fun | n => n⟩
theorem Tryz.keys153 : Go.Proofs.SlLaysZI.n7 Tryz.prog Tryz.keys153_ren := {
  mixed := by kernel_rfl
  f7 := ⟨Tryz.f153.name, by decide, Tryz.func153.trans (congrArg some (by kernel_rfl))⟩
  f10 := ⟨Tryz.f205.name, by decide, Tryz.func205.trans (congrArg some (by kernel_rfl))⟩
  t0 := Tryz.underlying0
  a0 := Tryz.isAgg0
  z0 := Tryz.sizeOf0
  v0 := Tryz.zeroValue0
  t4 := Tryz.underlying4
  a4 := Tryz.isAgg4
  z4 := Tryz.sizeOf4
  v4 := Tryz.zeroValue4
  t23 := Tryz.underlying98
  a23 := Tryz.isAgg98
  z23 := Tryz.sizeOf98
  v23 := Tryz.zeroValue98
  t26 := Tryz.underlying2
  a26 := Tryz.isAgg2
  z26 := Tryz.sizeOf2
  v26 := Tryz.zeroValue2
  t27 := Tryz.underlying250
  a27 := Tryz.isAgg250
  z27 := Tryz.sizeOf250
  v27 := Tryz.zeroValue250
  t28 := Tryz.underlying251
  a28 := Tryz.isAgg251
  z28 := Tryz.sizeOf251
  v28 := Tryz.zeroValue251
  t33 := Tryz.underlying276
  a33 := Tryz.isAgg276
  z33 := Tryz.sizeOf276
  v33 := Tryz.zeroValue276 }
def Tryz.sorted152_ren : Go.Shelf.Ren := ⟨fun | 6 => 152 | 8 => 203 | 9 => 204 | 11 => 244 | 13 => 246 | 12 => 245 | 23 => 282 | 24 => 283 | 14 => 274 | 15 => 275 | 16 => 276 | 17 => 277 | 18 => 278 | 19 => 279 | 20 => 216 | 21 => 280 | 22 => 281 | 25 => 305 | 26 => 306 | 27 => 307 | 28 => 308 | 29 => 309 | 30 => 212 | 31 => 317 | n => n, fun | 26 => 2 | 28 => 251 | 24 => 189 | 0 => 0 | 3 => 3 | 37 => 310 | 48 => 390 | 50 => 186 | 4 => 4 | 40 => 384 | 39 => 383 | 45 => 96 | 5 => 5 | 9 => 9 | 51 => 415 | 55 => 419 | 57 => 427 | 58 => 328 | 33 => 276 | n => n, fun | n => n⟩
theorem Tryz.sorted152 : Go.Proofs.SlLaysZI.n6 Tryz.prog Tryz.sorted152_ren := {
  mixed := by kernel_rfl
  f6 := ⟨Tryz.f152.name, by decide, Tryz.func152.trans (congrArg some (by kernel_rfl))⟩
  f8 := ⟨Tryz.f203.name, by decide, Tryz.func203.trans (congrArg some (by kernel_rfl))⟩
  f11 := ⟨Tryz.f244.name, by decide, Tryz.func244.trans (congrArg some (by kernel_rfl))⟩
  t0 := Tryz.underlying0
  a0 := Tryz.isAgg0
  z0 := Tryz.sizeOf0
  v0 := Tryz.zeroValue0
  t24 := Tryz.underlying189
  a24 := Tryz.isAgg189
  z24 := Tryz.sizeOf189
  v24 := Tryz.zeroValue189
  t26 := Tryz.underlying2
  a26 := Tryz.isAgg2
  z26 := Tryz.sizeOf2
  v26 := Tryz.zeroValue2
  t28 := Tryz.underlying251
  a28 := Tryz.isAgg251
  z28 := Tryz.sizeOf251
  v28 := Tryz.zeroValue251
  i26 := by kernel_rfl }
def Tryz.sort204_ren : Go.Shelf.Ren := ⟨fun | 5 => 204 | 8 => 246 | 7 => 245 | 19 => 282 | 20 => 283 | 10 => 274 | 11 => 275 | 12 => 276 | 13 => 277 | 14 => 278 | 15 => 279 | 16 => 216 | 17 => 280 | 18 => 281 | 30 => 305 | 31 => 306 | 32 => 307 | 33 => 308 | 34 => 309 | 35 => 212 | 40 => 317 | n => n, fun | 23 => 189 | 25 => 2 | 3 => 3 | 32 => 310 | 22 => 189 | 0 => 0 | 44 => 390 | 46 => 186 | 4 => 4 | 36 => 384 | 35 => 383 | 41 => 96 | 5 => 5 | 9 => 9 | 53 => 415 | 57 => 419 | 63 => 427 | 64 => 328 | n => n, fun | n => n⟩
theorem Tryz.sort204 : Go.Proofs.SlLaysM.n5 Tryz.prog Tryz.sort204_ren := {
  mixed := by kernel_rfl
  f5 := ⟨Tryz.f204.name, by decide, Tryz.func204.trans (congrArg some (by kernel_rfl))⟩
  f7 := ⟨Tryz.f245.name, by decide, Tryz.func245.trans (congrArg some (by kernel_rfl))⟩
  f8 := Tryz.func246.trans (congrArg some (by kernel_rfl))
  f10 := ⟨Tryz.f274.name, by decide, Tryz.func274.trans (congrArg some (by kernel_rfl))⟩
  f11 := ⟨Tryz.f275.name, by decide, Tryz.func275.trans (congrArg some (by kernel_rfl))⟩
  f12 := ⟨Tryz.f276.name, by decide, Tryz.func276.trans (congrArg some (by kernel_rfl))⟩
  f13 := ⟨Tryz.f277.name, by decide, Tryz.func277.trans (congrArg some (by kernel_rfl))⟩
  f14 := ⟨Tryz.f278.name, by decide, Tryz.func278.trans (congrArg some (by kernel_rfl))⟩
  f15 := ⟨Tryz.f279.name, by decide, Tryz.func279.trans (congrArg some (by kernel_rfl))⟩
  f16 := ⟨Tryz.f216.name, by decide, Tryz.func216.trans (congrArg some (by kernel_rfl))⟩
  f17 := ⟨Tryz.f280.name, by decide, Tryz.func280.trans (congrArg some (by kernel_rfl))⟩
  f18 := ⟨Tryz.f281.name, by decide, Tryz.func281.trans (congrArg some (by kernel_rfl))⟩
  f19 := Tryz.func282.trans (congrArg some (by kernel_rfl))
  f20 := Tryz.func283.trans (congrArg some (by kernel_rfl))
  f30 := ⟨Tryz.f305.name, by decide, Tryz.func305.trans (congrArg some (by kernel_rfl))⟩
  f31 := Tryz.func306.trans (congrArg some (by kernel_rfl))
  f32 := Tryz.func307.trans (congrArg some (by kernel_rfl))
  f33 := ⟨Tryz.f308.name, by decide, Tryz.func308.trans (congrArg some (by kernel_rfl))⟩
  f34 := ⟨Tryz.f309.name, by decide, Tryz.func309.trans (congrArg some (by kernel_rfl))⟩
  f35 := ⟨Tryz.f212.name, by decide, Tryz.func212.trans (congrArg some (by kernel_rfl))⟩
  f40 := ⟨Tryz.f317.name, by decide, Tryz.func317.trans (congrArg some (by kernel_rfl))⟩
  t0 := Tryz.underlying0
  a0 := Tryz.isAgg0
  z0 := Tryz.sizeOf0
  v0 := Tryz.zeroValue0
  t3 := Tryz.underlying3
  a3 := Tryz.isAgg3
  z3 := Tryz.sizeOf3
  v3 := Tryz.zeroValue3
  t4 := Tryz.underlying4
  a4 := Tryz.isAgg4
  z4 := Tryz.sizeOf4
  v4 := Tryz.zeroValue4
  t5 := Tryz.underlying5
  a5 := Tryz.isAgg5
  z5 := Tryz.sizeOf5
  v5 := Tryz.zeroValue5
  t9 := Tryz.underlying9
  a9 := Tryz.isAgg9
  z9 := Tryz.sizeOf9
  v9 := Tryz.zeroValue9
  t22 := Tryz.underlying189
  a22 := Tryz.isAgg189
  z22 := Tryz.sizeOf189
  v22 := Tryz.zeroValue189
  t23 := Tryz.underlying189
  a23 := Tryz.isAgg189
  z23 := Tryz.sizeOf189
  v23 := Tryz.zeroValue189
  t25 := Tryz.underlying2
  a25 := Tryz.isAgg2
  z25 := Tryz.sizeOf2
  v25 := Tryz.zeroValue2
  t32 := Tryz.underlying310
  a32 := Tryz.isAgg310
  z32 := Tryz.sizeOf310
  v32 := Tryz.zeroValue310
  t35 := Tryz.underlying383
  a35 := Tryz.isAgg383
  z35 := Tryz.sizeOf383
  v35 := Tryz.zeroValue383
  t36 := Tryz.underlying384
  a36 := Tryz.isAgg384
  z36 := Tryz.sizeOf384
  v36 := Tryz.zeroValue384
  t41 := Tryz.underlying96
  a41 := Tryz.isAgg96
  z41 := Tryz.sizeOf96
  v41 := Tryz.zeroValue96
  t44 := Tryz.underlying390
  a44 := Tryz.isAgg390
  z44 := Tryz.sizeOf390
  v44 := Tryz.zeroValue390
  t46 := Tryz.underlying186
  a46 := Tryz.isAgg186
  z46 := Tryz.sizeOf186
  v46 := Tryz.zeroValue186
  t53 := Tryz.underlying415
  a53 := Tryz.isAgg415
  z53 := Tryz.sizeOf415
  v53 := Tryz.zeroValue415
  t57 := Tryz.underlying419
  a57 := Tryz.isAgg419
  z57 := Tryz.sizeOf419
  v57 := Tryz.zeroValue419
  t63 := Tryz.underlying427
  a63 := Tryz.isAgg427
  z63 := Tryz.sizeOf427
  v63 := Tryz.zeroValue427
  t64 := Tryz.underlying328
  a64 := Tryz.isAgg328
  z64 := Tryz.sizeOf328
  v64 := Tryz.zeroValue328 }
end Go.Proofs
