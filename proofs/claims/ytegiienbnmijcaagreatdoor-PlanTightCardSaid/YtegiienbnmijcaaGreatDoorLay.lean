/-
  DERIVED: THE SHELF's CONTRACTS AT THIS DUMP, IN PLAIN WORDS (tools/lay-plain.mjs out of 'YtegiienbnmijcaaGreatDoorShelf.lean', which tools/lay-shelf.mjs wrote): THE SAME DECLARATIONS UNDER THE SAME NAMES: 'import', 'namespace', 'open', 'def', 'theorem' AND NOTHING ELSE: no command of the shelf's: FOR A HAND-IN. Each laying: the table of numbers ('.._ren') and one theorem, a field a fact of the dump's own or the kernel's comparison; each contract: ONE APPLICATION.
-/
import Derived.Shelf.SlGeneric
import Derived.Shelf.SlIterI.Nil
import Derived.Shelf.SlIter.Nil
import Derived.Shelf.SortM.Plain
import Derived.Shelf.SortM.SortNone
import Derived.Ground.GgzProg
import Derived.Ground.SlgmProg
import Derived.Test.YtegiienbnmijcaaGreatDoorProg
namespace Go.Proofs
open Go.Shelf
def Tryz.keys172_ren : Go.Shelf.Ren := ⟨fun | 7 => 172 | 10 => 212 | n => n, fun | 23 => 204 | 26 => 2 | 3 => 3 | 28 => 289 | 0 => 0 | 27 => 288 | 33 => 350 | 4 => 4 | n => n, fun | n => n⟩
theorem Tryz.keys172 : Go.Proofs.SlLaysZI.n7 Tryz.prog Tryz.keys172_ren := {
  mixed := by kernel_rfl
  f7 := ⟨Tryz.f172.name, by decide, Tryz.func172.trans (congrArg some (by kernel_rfl))⟩
  f10 := ⟨Tryz.f212.name, by decide, Tryz.func212.trans (congrArg some (by kernel_rfl))⟩
  t0 := Tryz.underlying0
  a0 := Tryz.isAgg0
  z0 := Tryz.sizeOf0
  v0 := Tryz.zeroValue0
  t4 := Tryz.underlying4
  a4 := Tryz.isAgg4
  z4 := Tryz.sizeOf4
  v4 := Tryz.zeroValue4
  t23 := Tryz.underlying204
  a23 := Tryz.isAgg204
  z23 := Tryz.sizeOf204
  v23 := Tryz.zeroValue204
  t26 := Tryz.underlying2
  a26 := Tryz.isAgg2
  z26 := Tryz.sizeOf2
  v26 := Tryz.zeroValue2
  t27 := Tryz.underlying288
  a27 := Tryz.isAgg288
  z27 := Tryz.sizeOf288
  v27 := Tryz.zeroValue288
  t28 := Tryz.underlying289
  a28 := Tryz.isAgg289
  z28 := Tryz.sizeOf289
  v28 := Tryz.zeroValue289
  t33 := Tryz.underlying350
  a33 := Tryz.isAgg350
  z33 := Tryz.sizeOf350
  v33 := Tryz.zeroValue350 }
def Tryz.sorted171_ren : Go.Shelf.Ren := ⟨fun | 6 => 171 | 8 => 210 | 9 => 211 | 11 => 257 | 13 => 259 | 12 => 258 | 23 => 303 | 24 => 304 | 14 => 295 | 15 => 296 | 16 => 297 | 17 => 298 | 18 => 299 | 19 => 300 | 20 => 269 | 21 => 301 | 22 => 302 | 25 => 330 | 26 => 331 | 27 => 332 | 28 => 333 | 29 => 334 | 30 => 252 | 31 => 354 | n => n, fun | 26 => 2 | 28 => 289 | 24 => 142 | 0 => 0 | 3 => 3 | 37 => 327 | 48 => 446 | 50 => 262 | 4 => 4 | 40 => 440 | 39 => 439 | 45 => 200 | 5 => 5 | 9 => 9 | 51 => 463 | 55 => 467 | 57 => 491 | 58 => 405 | 33 => 350 | n => n, fun | n => n⟩
theorem Tryz.sorted171 : Go.Proofs.SlLaysZI.n6 Tryz.prog Tryz.sorted171_ren := {
  mixed := by kernel_rfl
  f6 := ⟨Tryz.f171.name, by decide, Tryz.func171.trans (congrArg some (by kernel_rfl))⟩
  f8 := ⟨Tryz.f210.name, by decide, Tryz.func210.trans (congrArg some (by kernel_rfl))⟩
  f11 := ⟨Tryz.f257.name, by decide, Tryz.func257.trans (congrArg some (by kernel_rfl))⟩
  t0 := Tryz.underlying0
  a0 := Tryz.isAgg0
  z0 := Tryz.sizeOf0
  v0 := Tryz.zeroValue0
  t24 := Tryz.underlying142
  a24 := Tryz.isAgg142
  z24 := Tryz.sizeOf142
  v24 := Tryz.zeroValue142
  t26 := Tryz.underlying2
  a26 := Tryz.isAgg2
  z26 := Tryz.sizeOf2
  v26 := Tryz.zeroValue2
  t28 := Tryz.underlying289
  a28 := Tryz.isAgg289
  z28 := Tryz.sizeOf289
  v28 := Tryz.zeroValue289
  i26 := by kernel_rfl }
def Tryz.sort211_ren : Go.Shelf.Ren := ⟨fun | 5 => 211 | 8 => 259 | 7 => 258 | 19 => 303 | 20 => 304 | 10 => 295 | 11 => 296 | 12 => 297 | 13 => 298 | 14 => 299 | 15 => 300 | 16 => 269 | 17 => 301 | 18 => 302 | 30 => 330 | 31 => 331 | 32 => 332 | 33 => 333 | 34 => 334 | 35 => 252 | 40 => 354 | n => n, fun | 23 => 142 | 25 => 2 | 3 => 3 | 32 => 327 | 22 => 142 | 0 => 0 | 44 => 446 | 46 => 262 | 4 => 4 | 36 => 440 | 35 => 439 | 41 => 200 | 5 => 5 | 9 => 9 | 53 => 463 | 57 => 467 | 63 => 491 | 64 => 405 | n => n, fun | n => n⟩
theorem Tryz.sort211 : Go.Proofs.SlLaysM.n5 Tryz.prog Tryz.sort211_ren := {
  mixed := by kernel_rfl
  f5 := ⟨Tryz.f211.name, by decide, Tryz.func211.trans (congrArg some (by kernel_rfl))⟩
  f7 := ⟨Tryz.f258.name, by decide, Tryz.func258.trans (congrArg some (by kernel_rfl))⟩
  f8 := Tryz.func259.trans (congrArg some (by kernel_rfl))
  f10 := ⟨Tryz.f295.name, by decide, Tryz.func295.trans (congrArg some (by kernel_rfl))⟩
  f11 := ⟨Tryz.f296.name, by decide, Tryz.func296.trans (congrArg some (by kernel_rfl))⟩
  f12 := ⟨Tryz.f297.name, by decide, Tryz.func297.trans (congrArg some (by kernel_rfl))⟩
  f13 := ⟨Tryz.f298.name, by decide, Tryz.func298.trans (congrArg some (by kernel_rfl))⟩
  f14 := ⟨Tryz.f299.name, by decide, Tryz.func299.trans (congrArg some (by kernel_rfl))⟩
  f15 := ⟨Tryz.f300.name, by decide, Tryz.func300.trans (congrArg some (by kernel_rfl))⟩
  f16 := ⟨Tryz.f269.name, by decide, Tryz.func269.trans (congrArg some (by kernel_rfl))⟩
  f17 := ⟨Tryz.f301.name, by decide, Tryz.func301.trans (congrArg some (by kernel_rfl))⟩
  f18 := ⟨Tryz.f302.name, by decide, Tryz.func302.trans (congrArg some (by kernel_rfl))⟩
  f19 := Tryz.func303.trans (congrArg some (by kernel_rfl))
  f20 := Tryz.func304.trans (congrArg some (by kernel_rfl))
  f30 := ⟨Tryz.f330.name, by decide, Tryz.func330.trans (congrArg some (by kernel_rfl))⟩
  f31 := Tryz.func331.trans (congrArg some (by kernel_rfl))
  f32 := Tryz.func332.trans (congrArg some (by kernel_rfl))
  f33 := ⟨Tryz.f333.name, by decide, Tryz.func333.trans (congrArg some (by kernel_rfl))⟩
  f34 := ⟨Tryz.f334.name, by decide, Tryz.func334.trans (congrArg some (by kernel_rfl))⟩
  f35 := ⟨Tryz.f252.name, by decide, Tryz.func252.trans (congrArg some (by kernel_rfl))⟩
  f40 := ⟨Tryz.f354.name, by decide, Tryz.func354.trans (congrArg some (by kernel_rfl))⟩
  t0 := Tryz.underlying0
  a0 := Tryz.isAgg0
  z0 := Tryz.sizeOf0
  v0 := Tryz.zeroValue0
  t3 := Tryz.underlying3
  a3 := Tryz.isAgg3
  z3 := Tryz.sizeOf3
  v3 := Tryz.zeroValue3
  t4 := Tryz.underlying4
  a4 := Tryz.isAgg4
  z4 := Tryz.sizeOf4
  v4 := Tryz.zeroValue4
  t5 := Tryz.underlying5
  a5 := Tryz.isAgg5
  z5 := Tryz.sizeOf5
  v5 := Tryz.zeroValue5
  t9 := Tryz.underlying9
  a9 := Tryz.isAgg9
  z9 := Tryz.sizeOf9
  v9 := Tryz.zeroValue9
  t22 := Tryz.underlying142
  a22 := Tryz.isAgg142
  z22 := Tryz.sizeOf142
  v22 := Tryz.zeroValue142
  t23 := Tryz.underlying142
  a23 := Tryz.isAgg142
  z23 := Tryz.sizeOf142
  v23 := Tryz.zeroValue142
  t25 := Tryz.underlying2
  a25 := Tryz.isAgg2
  z25 := Tryz.sizeOf2
  v25 := Tryz.zeroValue2
  t32 := Tryz.underlying327
  a32 := Tryz.isAgg327
  z32 := Tryz.sizeOf327
  v32 := Tryz.zeroValue327
  t35 := Tryz.underlying439
  a35 := Tryz.isAgg439
  z35 := Tryz.sizeOf439
  v35 := Tryz.zeroValue439
  t36 := Tryz.underlying440
  a36 := Tryz.isAgg440
  z36 := Tryz.sizeOf440
  v36 := Tryz.zeroValue440
  t41 := Tryz.underlying200
  a41 := Tryz.isAgg200
  z41 := Tryz.sizeOf200
  v41 := Tryz.zeroValue200
  t44 := Tryz.underlying446
  a44 := Tryz.isAgg446
  z44 := Tryz.sizeOf446
  v44 := Tryz.zeroValue446
  t46 := Tryz.underlying262
  a46 := Tryz.isAgg262
  z46 := Tryz.sizeOf262
  v46 := Tryz.zeroValue262
  t53 := Tryz.underlying463
  a53 := Tryz.isAgg463
  z53 := Tryz.sizeOf463
  v53 := Tryz.zeroValue463
  t57 := Tryz.underlying467
  a57 := Tryz.isAgg467
  z57 := Tryz.sizeOf467
  v57 := Tryz.zeroValue467
  t63 := Tryz.underlying491
  a63 := Tryz.isAgg491
  z63 := Tryz.sizeOf491
  v63 := Tryz.zeroValue491
  t64 := Tryz.underlying405
  a64 := Tryz.isAgg405
  z64 := Tryz.sizeOf405
  v64 := Tryz.zeroValue405 }
end Go.Proofs
