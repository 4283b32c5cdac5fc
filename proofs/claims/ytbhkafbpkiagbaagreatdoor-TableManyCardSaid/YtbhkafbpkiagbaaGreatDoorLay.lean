/-
  DERIVED: THE SHELF's CONTRACTS AT THIS DUMP, IN PLAIN WORDS (tools/lay-plain.mjs out of 'YtbhkafbpkiagbaaGreatDoorShelf.lean', which tools/lay-shelf.mjs wrote): THE SAME DECLARATIONS UNDER THE SAME NAMES: 'import', 'namespace', 'open', 'def', 'theorem' AND NOTHING ELSE: no command of the shelf's: FOR A HAND-IN. Each laying: the table of numbers ('.._ren') and one theorem, a field a fact of the dump's own or the kernel's comparison; each contract: ONE APPLICATION.
-/
import Derived.Shelf.SlGeneric
import Derived.Shelf.SlIterI.Nil
import Derived.Shelf.SlIter.Nil
import Derived.Shelf.SortM.Plain
import Derived.Shelf.SortM.SortNone
import Derived.Ground.GgzProg
import Derived.Ground.SlgmProg
import Derived.Test.YtbhkafbpkiagbaaGreatDoorProg
namespace Go.Proofs
open Go.Shelf
def Tryz.keys79_ren : Go.Shelf.Ren := ⟨fun | 7 => 79 | 10 => 101 | n => n, fun | 23 => 93 | 26 => 2 | 3 => 3 | 28 => 170 | 0 => 0 | 27 => 169 | 33 => 224 | 4 => 4 | n => n, fun | n => n⟩
theorem Tryz.keys79 : Go.Proofs.SlLaysZI.n7 Tryz.prog Tryz.keys79_ren := {
  mixed := by kernel_rfl
  f7 := ⟨Tryz.f79.name, by decide, Tryz.func79.trans (congrArg some (by kernel_rfl))⟩
  f10 := ⟨Tryz.f101.name, by decide, Tryz.func101.trans (congrArg some (by kernel_rfl))⟩
  t0 := Tryz.underlying0
  a0 := Tryz.isAgg0
  z0 := Tryz.sizeOf0
  v0 := Tryz.zeroValue0
  t4 := Tryz.underlying4
  a4 := Tryz.isAgg4
  z4 := Tryz.sizeOf4
  v4 := Tryz.zeroValue4
  t23 := Tryz.underlying93
  a23 := Tryz.isAgg93
  z23 := Tryz.sizeOf93
  v23 := Tryz.zeroValue93
  t26 := Tryz.underlying2
  a26 := Tryz.isAgg2
  z26 := Tryz.sizeOf2
  v26 := Tryz.zeroValue2
  t27 := Tryz.underlying169
  a27 := Tryz.isAgg169
  z27 := Tryz.sizeOf169
  v27 := Tryz.zeroValue169
  t28 := Tryz.underlying170
  a28 := Tryz.isAgg170
  z28 := Tryz.sizeOf170
  v28 := Tryz.zeroValue170
  t33 := Tryz.underlying224
  a33 := Tryz.isAgg224
  z33 := Tryz.sizeOf224
  v33 := Tryz.zeroValue224 }
def Tryz.sorted78_ren : Go.Shelf.Ren := ⟨fun | 6 => 78 | 8 => 99 | 9 => 100 | 11 => 128 | 13 => 130 | 12 => 129 | 23 => 181 | 24 => 182 | 14 => 172 | 15 => 173 | 16 => 174 | 17 => 175 | 18 => 176 | 19 => 177 | 20 => 178 | 21 => 179 | 22 => 180 | 25 => 217 | 26 => 218 | 27 => 219 | 28 => 220 | 29 => 221 | 30 => 190 | 31 => 248 | n => n, fun | 26 => 2 | 28 => 170 | 24 => 167 | 0 => 0 | 3 => 3 | 37 => 197 | 48 => 303 | 50 => 153 | 4 => 4 | 40 => 296 | 39 => 295 | 45 => 90 | 5 => 5 | 9 => 9 | 51 => 342 | 55 => 346 | 57 => 364 | 58 => 314 | 33 => 224 | n => n, fun | n => n⟩
theorem Tryz.sorted78 : Go.Proofs.SlLaysZI.n6 Tryz.prog Tryz.sorted78_ren := {
  mixed := by kernel_rfl
  f6 := ⟨Tryz.f78.name, by decide, Tryz.func78.trans (congrArg some (by kernel_rfl))⟩
  f8 := ⟨Tryz.f99.name, by decide, Tryz.func99.trans (congrArg some (by kernel_rfl))⟩
  f11 := ⟨Tryz.f128.name, by decide, Tryz.func128.trans (congrArg some (by kernel_rfl))⟩
  t0 := Tryz.underlying0
  a0 := Tryz.isAgg0
  z0 := Tryz.sizeOf0
  v0 := Tryz.zeroValue0
  t24 := Tryz.underlying167
  a24 := Tryz.isAgg167
  z24 := Tryz.sizeOf167
  v24 := Tryz.zeroValue167
  t26 := Tryz.underlying2
  a26 := Tryz.isAgg2
  z26 := Tryz.sizeOf2
  v26 := Tryz.zeroValue2
  t28 := Tryz.underlying170
  a28 := Tryz.isAgg170
  z28 := Tryz.sizeOf170
  v28 := Tryz.zeroValue170
  i26 := by kernel_rfl }
def Tryz.sort100_ren : Go.Shelf.Ren := ⟨fun | 5 => 100 | 8 => 130 | 7 => 129 | 19 => 181 | 20 => 182 | 10 => 172 | 11 => 173 | 12 => 174 | 13 => 175 | 14 => 176 | 15 => 177 | 16 => 178 | 17 => 179 | 18 => 180 | 30 => 217 | 31 => 218 | 32 => 219 | 33 => 220 | 34 => 221 | 35 => 190 | 40 => 248 | n => n, fun | 23 => 167 | 25 => 2 | 3 => 3 | 32 => 197 | 22 => 167 | 0 => 0 | 44 => 303 | 46 => 153 | 4 => 4 | 36 => 296 | 35 => 295 | 41 => 90 | 5 => 5 | 9 => 9 | 53 => 342 | 57 => 346 | 63 => 364 | 64 => 314 | n => n, fun | n => n⟩
theorem Tryz.sort100 : Go.Proofs.SlLaysM.n5 Tryz.prog Tryz.sort100_ren := {
  mixed := by kernel_rfl
  f5 := ⟨Tryz.f100.name, by decide, Tryz.func100.trans (congrArg some (by kernel_rfl))⟩
  f7 := ⟨Tryz.f129.name, by decide, Tryz.func129.trans (congrArg some (by kernel_rfl))⟩
  f8 := Tryz.func130.trans (congrArg some (by kernel_rfl))
  f10 := ⟨Tryz.f172.name, by decide, Tryz.func172.trans (congrArg some (by kernel_rfl))⟩
  f11 := ⟨Tryz.f173.name, by decide, Tryz.func173.trans (congrArg some (by kernel_rfl))⟩
  f12 := ⟨Tryz.f174.name, by decide, Tryz.func174.trans (congrArg some (by kernel_rfl))⟩
  f13 := ⟨Tryz.f175.name, by decide, Tryz.func175.trans (congrArg some (by kernel_rfl))⟩
  f14 := ⟨Tryz.f176.name, by decide, Tryz.func176.trans (congrArg some (by kernel_rfl))⟩
  f15 := ⟨Tryz.f177.name, by decide, Tryz.func177.trans (congrArg some (by kernel_rfl))⟩
  f16 := ⟨Tryz.f178.name, by decide, Tryz.func178.trans (congrArg some (by kernel_rfl))⟩
  f17 := ⟨Tryz.f179.name, by decide, Tryz.func179.trans (congrArg some (by kernel_rfl))⟩
  f18 := ⟨Tryz.f180.name, by decide, Tryz.func180.trans (congrArg some (by kernel_rfl))⟩
  f19 := Tryz.func181.trans (congrArg some (by kernel_rfl))
  f20 := Tryz.func182.trans (congrArg some (by kernel_rfl))
  f30 := ⟨Tryz.f217.name, by decide, Tryz.func217.trans (congrArg some (by kernel_rfl))⟩
  f31 := Tryz.func218.trans (congrArg some (by kernel_rfl))
  f32 := Tryz.func219.trans (congrArg some (by kernel_rfl))
  f33 := ⟨Tryz.f220.name, by decide, Tryz.func220.trans (congrArg some (by kernel_rfl))⟩
  f34 := ⟨Tryz.f221.name, by decide, Tryz.func221.trans (congrArg some (by kernel_rfl))⟩
  f35 := ⟨Tryz.f190.name, by decide, Tryz.func190.trans (congrArg some (by kernel_rfl))⟩
  f40 := ⟨Tryz.f248.name, by decide, Tryz.func248.trans (congrArg some (by kernel_rfl))⟩
  t0 := Tryz.underlying0
  a0 := Tryz.isAgg0
  z0 := Tryz.sizeOf0
  v0 := Tryz.zeroValue0
  t3 := Tryz.underlying3
  a3 := Tryz.isAgg3
  z3 := Tryz.sizeOf3
  v3 := Tryz.zeroValue3
  t4 := Tryz.underlying4
  a4 := Tryz.isAgg4
  z4 := Tryz.sizeOf4
  v4 := Tryz.zeroValue4
  t5 := Tryz.underlying5
  a5 := Tryz.isAgg5
  z5 := Tryz.sizeOf5
  v5 := Tryz.zeroValue5
  t9 := Tryz.underlying9
  a9 := Tryz.isAgg9
  z9 := Tryz.sizeOf9
  v9 := Tryz.zeroValue9
  t22 := Tryz.underlying167
  a22 := Tryz.isAgg167
  z22 := Tryz.sizeOf167
  v22 := Tryz.zeroValue167
  t23 := Tryz.underlying167
  a23 := Tryz.isAgg167
  z23 := Tryz.sizeOf167
  v23 := Tryz.zeroValue167
  t25 := Tryz.underlying2
  a25 := Tryz.isAgg2
  z25 := Tryz.sizeOf2
  v25 := Tryz.zeroValue2
  t32 := Tryz.underlying197
  a32 := Tryz.isAgg197
  z32 := Tryz.sizeOf197
  v32 := Tryz.zeroValue197
  t35 := Tryz.underlying295
  a35 := Tryz.isAgg295
  z35 := Tryz.sizeOf295
  v35 := Tryz.zeroValue295
  t36 := Tryz.underlying296
  a36 := Tryz.isAgg296
  z36 := Tryz.sizeOf296
  v36 := Tryz.zeroValue296
  t41 := Tryz.underlying90
  a41 := Tryz.isAgg90
  z41 := Tryz.sizeOf90
  v41 := Tryz.zeroValue90
  t44 := Tryz.underlying303
  a44 := Tryz.isAgg303
  z44 := Tryz.sizeOf303
  v44 := Tryz.zeroValue303
  t46 := Tryz.underlying153
  a46 := Tryz.isAgg153
  z46 := Tryz.sizeOf153
  v46 := Tryz.zeroValue153
  t53 := Tryz.underlying342
  a53 := Tryz.isAgg342
  z53 := Tryz.sizeOf342
  v53 := Tryz.zeroValue342
  t57 := Tryz.underlying346
  a57 := Tryz.isAgg346
  z57 := Tryz.sizeOf346
  v57 := Tryz.zeroValue346
  t63 := Tryz.underlying364
  a63 := Tryz.isAgg364
  z63 := Tryz.sizeOf364
  v63 := Tryz.zeroValue364
  t64 := Tryz.underlying314
  a64 := Tryz.isAgg314
  z64 := Tryz.sizeOf314
  v64 := Tryz.zeroValue314 }
end Go.Proofs
