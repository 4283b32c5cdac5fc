/- Texts of this claim, one behind the other. -/
import Derived.Shelf.SlGeneric
import Derived.Shelf.SlIterI.Nil
import Derived.Shelf.SlIter.Nil
import Derived.Shelf.SortM.Plain
import Derived.Shelf.SortM.SortNone
import Derived.Ground.GgzProg
import Derived.Ground.SlgmProg
import Derived.Test.YtlpmfiamelahjaaGreatDoorProg
import Derived.Shelf.Small.Strs
import Derived.Ground.NamesProg
import Derived.Test.YtlpmfiamelahjaaGreatDoorE0
import Derived.WalkKit
import Derived.Tactics
import Derived.Lib.Bytealg
import Derived.KernelRfl
import Derived.Laws.BitsLemmas
import Derived.Below
import Derived.Deep.Draws
import Derived.Deep.AppendLies
import Derived.Maps.AppendAt
import Derived.OwnWalk
import Derived.Laws.BytesArg
import Derived.Laws.MakeOwn
import Derived.Laws.OwnMore
import Derived.Deep.OwnRows
import Derived.Lib.ConvBytes
import Derived.Laws.Slices
import Derived.RowKit3
import Derived.Deep.LoopGhost
import Derived.Deep.QuietTactic
import Derived.BigQuiet
import Derived.WideLaws
import Derived.Deep.DeepCutAuto
import Derived.Deep.CutBlock
import Derived.Deep.RegionHeld3
import Derived.Laws.Rows
import Derived.Lib.AppendStr
import Derived.ArgAppend
import Derived.Laws.IdiomCopy
import Derived.OrdersHeld
import Derived.RowKit
import Derived.Test.YtlpmfiamelahjaaGreatDoorE4
namespace Go.Proofs
open Go.Shelf
def Tryz.keys182_ren : Go.Shelf.Ren := ⟨fun | 7 => 182 | 10 => 215 | n => n, fun | 23 => 213 | 26 => 2 | 3 => 3 | 28 => 293 | 0 => 0 | 27 => 292 | 33 => 207 | 4 => 4 | n => n, fun | n => n⟩
theorem Tryz.keys182 : Go.Proofs.SlLaysZI.n7 Tryz.prog Tryz.keys182_ren := {
  mixed := by kernel_rfl
  f7 := ⟨Tryz.f182.name, by decide, Tryz.func182.trans (congrArg some (by kernel_rfl))⟩
  f10 := ⟨Tryz.f215.name, by decide, Tryz.func215.trans (congrArg some (by kernel_rfl))⟩
  t0 := Tryz.underlying0
  a0 := Tryz.isAgg0
  z0 := Tryz.sizeOf0
  v0 := Tryz.zeroValue0
  t4 := Tryz.underlying4
  a4 := Tryz.isAgg4
  z4 := Tryz.sizeOf4
  v4 := Tryz.zeroValue4
  t23 := Tryz.underlying213
  a23 := Tryz.isAgg213
  z23 := Tryz.sizeOf213
  v23 := Tryz.zeroValue213
  t26 := Tryz.underlying2
  a26 := Tryz.isAgg2
  z26 := Tryz.sizeOf2
  v26 := Tryz.zeroValue2
  t27 := Tryz.underlying292
  a27 := Tryz.isAgg292
  z27 := Tryz.sizeOf292
  v27 := Tryz.zeroValue292
  t28 := Tryz.underlying293
  a28 := Tryz.isAgg293
  z28 := Tryz.sizeOf293
  v28 := Tryz.zeroValue293
  t33 := Tryz.underlying207
  a33 := Tryz.isAgg207
  z33 := Tryz.sizeOf207
  v33 := Tryz.zeroValue207 }
def Tryz.sorted181_ren : Go.Shelf.Ren := ⟨fun | 6 => 181 | 8 => 213 | 9 => 214 | 11 => 257 | 13 => 259 | 12 => 258 | 23 => 301 | 24 => 302 | 14 => 293 | 15 => 294 | 16 => 295 | 17 => 296 | 18 => 297 | 19 => 298 | 20 => 269 | 21 => 299 | 22 => 300 | 25 => 328 | 26 => 329 | 27 => 330 | 28 => 331 | 29 => 332 | 30 => 109 | 31 => 352 | n => n, fun | 26 => 2 | 28 => 293 | 24 => 147 | 0 => 0 | 3 => 3 | 37 => 209 | 48 => 442 | 50 => 102 | 4 => 4 | 40 => 436 | 39 => 435 | 45 => 210 | 5 => 5 | 9 => 9 | 51 => 459 | 55 => 463 | 57 => 487 | 58 => 402 | 33 => 207 | n => n, fun | n => n⟩
theorem Tryz.sorted181 : Go.Proofs.SlLaysZI.n6 Tryz.prog Tryz.sorted181_ren := {
  mixed := by kernel_rfl
  f6 := ⟨Tryz.f181.name, by decide, Tryz.func181.trans (congrArg some (by kernel_rfl))⟩
  f8 := ⟨Tryz.f213.name, by decide, Tryz.func213.trans (congrArg some (by kernel_rfl))⟩
  f11 := ⟨Tryz.f257.name, by decide, Tryz.func257.trans (congrArg some (by kernel_rfl))⟩
  t0 := Tryz.underlying0
  a0 := Tryz.isAgg0
  z0 := Tryz.sizeOf0
  v0 := Tryz.zeroValue0
  t24 := Tryz.underlying147
  a24 := Tryz.isAgg147
  z24 := Tryz.sizeOf147
  v24 := Tryz.zeroValue147
  t26 := Tryz.underlying2
  a26 := Tryz.isAgg2
  z26 := Tryz.sizeOf2
  v26 := Tryz.zeroValue2
  t28 := Tryz.underlying293
  a28 := Tryz.isAgg293
  z28 := Tryz.sizeOf293
  v28 := Tryz.zeroValue293
  i26 := by kernel_rfl }
def Tryz.sort214_ren : Go.Shelf.Ren := ⟨fun | 5 => 214 | 8 => 259 | 7 => 258 | 19 => 301 | 20 => 302 | 10 => 293 | 11 => 294 | 12 => 295 | 13 => 296 | 14 => 297 | 15 => 298 | 16 => 269 | 17 => 299 | 18 => 300 | 30 => 328 | 31 => 329 | 32 => 330 | 33 => 331 | 34 => 332 | 35 => 109 | 40 => 352 | n => n, fun | 23 => 147 | 25 => 2 | 3 => 3 | 32 => 209 | 22 => 147 | 0 => 0 | 44 => 442 | 46 => 102 | 4 => 4 | 36 => 436 | 35 => 435 | 41 => 210 | 5 => 5 | 9 => 9 | 53 => 459 | 57 => 463 | 63 => 487 | 64 => 402 | n => n, fun | n => n⟩
theorem Tryz.sort214 : Go.Proofs.SlLaysM.n5 Tryz.prog Tryz.sort214_ren := {
  mixed := by kernel_rfl
  f5 := ⟨Tryz.f214.name, by decide, Tryz.func214.trans (congrArg some (by kernel_rfl))⟩
  f7 := ⟨Tryz.f258.name, by decide, Tryz.func258.trans (congrArg some (by kernel_rfl))⟩
  f8 := Tryz.func259.trans (congrArg some (by kernel_rfl))
  f10 := ⟨Tryz.f293.name, by decide, Tryz.func293.trans (congrArg some (by kernel_rfl))⟩
  f11 := ⟨Tryz.f294.name, by decide, Tryz.func294.trans (congrArg some (by kernel_rfl))⟩
  f12 := ⟨Tryz.f295.name, by decide, Tryz.func295.trans (congrArg some (by kernel_rfl))⟩
  f13 := ⟨Tryz.f296.name, by decide, Tryz.func296.trans (congrArg some (by kernel_rfl))⟩
  f14 := ⟨Tryz.f297.name, by decide, Tryz.func297.trans (congrArg some (by kernel_rfl))⟩
  f15 := ⟨Tryz.f298.name, by decide, Tryz.func298.trans (congrArg some (by kernel_rfl))⟩
  f16 := ⟨Tryz.f269.name, by decide, Tryz.func269.trans (congrArg some (by kernel_rfl))⟩
  f17 := ⟨Tryz.f299.name, by decide, Tryz.func299.trans (congrArg some (by kernel_rfl))⟩
  f18 := ⟨Tryz.f300.name, by decide, Tryz.func300.trans (congrArg some (by kernel_rfl))⟩
  f19 := Tryz.func301.trans (congrArg some (by kernel_rfl))
  f20 := Tryz.func302.trans (congrArg some (by kernel_rfl))
  f30 := ⟨Tryz.f328.name, by decide, Tryz.func328.trans (congrArg some (by kernel_rfl))⟩
  f31 := Tryz.func329.trans (congrArg some (by kernel_rfl))
  f32 := Tryz.func330.trans (congrArg some (by kernel_rfl))
  f33 := ⟨Tryz.f331.name, by decide, Tryz.func331.trans (congrArg some (by kernel_rfl))⟩
  f34 := ⟨Tryz.f332.name, by decide, Tryz.func332.trans (congrArg some (by kernel_rfl))⟩
  f35 := ⟨Tryz.f109.name, by decide, Tryz.func109.trans (congrArg some (by kernel_rfl))⟩
  f40 := ⟨Tryz.f352.name, by decide, Tryz.func352.trans (congrArg some (by kernel_rfl))⟩
  t0 := Tryz.underlying0
  a0 := Tryz.isAgg0
  z0 := Tryz.sizeOf0
  v0 := Tryz.zeroValue0
  t3 := Tryz.underlying3
  a3 := Tryz.isAgg3
  z3 := Tryz.sizeOf3
  v3 := Tryz.zeroValue3
  t4 := Tryz.underlying4
  a4 := Tryz.isAgg4
  z4 := Tryz.sizeOf4
  v4 := Tryz.zeroValue4
  t5 := Tryz.underlying5
  a5 := Tryz.isAgg5
  z5 := Tryz.sizeOf5
  v5 := Tryz.zeroValue5
  t9 := Tryz.underlying9
  a9 := Tryz.isAgg9
  z9 := Tryz.sizeOf9
  v9 := Tryz.zeroValue9
  t22 := Tryz.underlying147
  a22 := Tryz.isAgg147
  z22 := Tryz.sizeOf147
  v22 := Tryz.zeroValue147
  t23 := Tryz.underlying147
  a23 := Tryz.isAgg147
  z23 := Tryz.sizeOf147
  v23 := Tryz.zeroValue147
  t25 := Tryz.underlying2
  a25 := Tryz.isAgg2
  z25 := Tryz.sizeOf2
  v25 := Tryz.zeroValue2
  t32 := Tryz.underlying209
  a32 := Tryz.isAgg209
  z32 := Tryz.sizeOf209
  v32 := Tryz.zeroValue209
  t35 := Tryz.underlying435
  a35 := Tryz.isAgg435
  z35 := Tryz.sizeOf435
  v35 := Tryz.zeroValue435
  t36 := Tryz.underlying436
  a36 := Tryz.isAgg436
  z36 := Tryz.sizeOf436
  v36 := Tryz.zeroValue436
  t41 := Tryz.underlying210
  a41 := Tryz.isAgg210
  z41 := Tryz.sizeOf210
  v41 := Tryz.zeroValue210
  t44 := Tryz.underlying442
  a44 := Tryz.isAgg442
  z44 := Tryz.sizeOf442
  v44 := Tryz.zeroValue442
  t46 := Tryz.underlying102
  a46 := Tryz.isAgg102
  z46 := Tryz.sizeOf102
  v46 := Tryz.zeroValue102
  t53 := Tryz.underlying459
  a53 := Tryz.isAgg459
  z53 := Tryz.sizeOf459
  v53 := Tryz.zeroValue459
  t57 := Tryz.underlying463
  a57 := Tryz.isAgg463
  z57 := Tryz.sizeOf463
  v57 := Tryz.zeroValue463
  t63 := Tryz.underlying487
  a63 := Tryz.isAgg487
  z63 := Tryz.sizeOf487
  v63 := Tryz.zeroValue487
  t64 := Tryz.underlying402
  a64 := Tryz.isAgg402
  z64 := Tryz.sizeOf402
  v64 := Tryz.zeroValue402 }
def Tryz.cmp106_ren : Go.Shelf.Ren := ⟨fun | 106 => 39 | 213 => 110 | 265 => 165 | n => n, fun | 9 => 9 | 3 => 3 | n => n, fun | n => n⟩
theorem Tryz.cmp106 : Go.Proofs.Lays.n106 Tryz.prog Tryz.cmp106_ren := {
  mixed := by kernel_rfl
  f106 := Tryz.func39.trans (congrArg some (by kernel_rfl))
  f213 := Tryz.func110.trans (congrArg some (by kernel_rfl))
  f265 := Tryz.func165.trans (congrArg some (by kernel_rfl))
  t3 := Tryz.underlying3
  a3 := Tryz.isAgg3
  z3 := Tryz.sizeOf3
  v3 := Tryz.zeroValue3
  t9 := Tryz.underlying9
  a9 := Tryz.isAgg9
  z9 := Tryz.sizeOf9
  v9 := Tryz.zeroValue9 }
end Go.Proofs
namespace Go.Proofs.YtlpmfiamelahjaaGreatDoor.Gvn
open Go.RowKit Go.Proofs.YtlpmfiamelahjaaGreatDoorW.PrintWords Go.Proofs.YtlpmfiamelahjaaGreatDoorW.PrintLast Go.Proofs.YtlpmfiamelahjaaGreatDoorW.PrintMore
theorem run_store_float {P : Program} {w : World} {a : Addr} {m : Mode} (k : FloatKind) (n : Nat) : (store a (.float k n) m).run P w = stored P w a (.float k n) m := run_store P w a _ m rfl
theorem gv23 (b : Nat) (w : World) : (callFunc 113 #[.float .f64 b]).run Tryz.prog w = .ok (.value (.int .u64 b)) w := by kernel_rfl
theorem u64_nat (n : Nat) (h : n < 18446744073709551616) : IntKind.u64.wrap (n : Int) = n := by simp [IntKind.wrap, IntKind.bits, IntKind.signed]; omega
theorem bv_nat (n : Nat) (h : n < 18446744073709551616) : (BitVec.ofInt 64 (n : Int)).toNat = n := by simp; omega
theorem testBit63 (a : Nat) (h : a < 18446744073709551616) : a &&& 9223372036854775808 = if a < 9223372036854775808 then 0 else 9223372036854775808 := by
  have key : a &&& 2 ^ 63 = if a < 2 ^ 63 then 0 else 2 ^ 63 := by
    apply Nat.eq_of_testBit_eq
    intro i
    rw [Nat.testBit_and, Nat.testBit_two_pow]
    by_cases h63 : i = 63
    · subst h63
      by_cases hlt : a < 2 ^ 63
      · rw [if_pos hlt, Nat.testBit_lt_two_pow hlt]; simp
      · rw [if_neg hlt, Nat.testBit_two_pow]
        have : a.testBit 63 = true := by
          rw [Nat.testBit_eq_decide_div_mod_eq]; simp; omega
        simp [this]
    · rw [decide_eq_false (Ne.symm h63), Bool.and_false]
      split
      · simp
      · rw [Nat.testBit_two_pow, decide_eq_false (Ne.symm h63)]
  exact key
theorem and63 (a : Nat) (h : a < 18446744073709551616) : Go.bits .and .u64 (a : Int) 9223372036854775808 = if a < 9223372036854775808 then 0 else 9223372036854775808 := by
  have e : (BitVec.ofInt 64 (a : Int) &&& BitVec.ofInt 64 9223372036854775808).toNat = if a < 9223372036854775808 then 0 else 9223372036854775808 := by
    rw [BitVec.toNat_and, bv_nat a h, ← testBit63 a h]; rfl
  show IntKind.u64.wrap ((BitVec.ofInt 64 (a : Int) &&& BitVec.ofInt 64 9223372036854775808).toNat : Int) = _
  rw [e]
  split <;> rfl
theorem or63 (a : Nat) (h : a < 9223372036854775808) : Go.bits .or .u64 (a : Int) 9223372036854775808 = ((a + 9223372036854775808 : Nat) : Int) := by
  have e : (BitVec.ofInt 64 (a : Int) ||| BitVec.ofInt 64 9223372036854775808).toNat = a + 9223372036854775808 := by
    rw [BitVec.toNat_or, bv_nat a (by omega)]
    show a ||| 2 ^ 63 = a + 2 ^ 63
    have h' : a < 2 ^ 63 := h
    have := Nat.two_pow_add_eq_or_of_lt h' 1
    rw [Nat.mul_one] at this
    rw [Nat.or_comm, ← this, Nat.add_comm]
  show IntKind.u64.wrap ((BitVec.ofInt 64 (a : Int) ||| BitVec.ofInt 64 9223372036854775808).toNat : Int) = _
  rw [e, u64_nat _ (by omega)]
theorem xor63 (a : Nat) (h : a < 18446744073709551616) : Go.bits .xor .u64 IntKind.u64.max (a : Int) = 18446744073709551615 - (a : Int) := by
  have e : (BitVec.ofInt 64 IntKind.u64.max ^^^ BitVec.ofInt 64 (a : Int)).toNat = 18446744073709551615 - a := by
    have h1 : BitVec.ofInt 64 IntKind.u64.max = BitVec.allOnes 64 := by decide
    rw [h1, BitVec.allOnes_xor, BitVec.toNat_not, bv_nat a h]
  show IntKind.u64.wrap ((BitVec.ofInt 64 IntKind.u64.max ^^^ BitVec.ofInt 64 (a : Int)).toNat : Int) = _
  rw [e, u64_nat _ (by omega)]
  omega
def bits_Order.f (a0 : Nat) : Option (Int) := if a0 < 18446744073709551616 then some (if a0 < 9223372036854775808 then a0 + 9223372036854775808 else 18446744073709551615 - a0) else none
set_option maxRecDepth 100000 in
theorem bits_Order.calls (a0 : Nat) (r : Int) (w : World) (h : bits_Order.f a0 = some r) :
    Calls Tryz.prog 112 #[.float .f64 a0] w fun e w' => e = .returned (.int .u64 r) ∧ Drawn0 w w' := by
  unfold bits_Order.f at h
  split at h
  · rename_i hlt
    have hr := Option.some.inj h
    have ha := and63 a0 hlt
    have k23 := gv23 a0
    by_cases hs : a0 < 9223372036854775808
    · rw [if_pos hs] at ha hr
      have ho := or63 a0 hs
      have hb : (Go.bits .and .u64 (a0 : Int) 9223372036854775808 != 0) = false := by rw [ha]; rfl
      have ho' : Go.bits .or .u64 (a0 : Int) 9223372036854775808 = r := by rw [ho, ← hr]; rfl
      clear ha ho hr h hs hlt
      go_enter Tryz.func112, Tryz.ntmps112
      go_wp2
      go_ret
      exact ⟨rfl, Drawn0.refl _⟩
    · rw [if_neg hs] at ha hr
      have hb : (Go.bits .and .u64 (a0 : Int) 9223372036854775808 != 0) = true := by rw [ha]; rfl
      have hx : Go.bits .xor .u64 IntKind.u64.max (a0 : Int) = r := by rw [xor63 a0 hlt, hr]
      have hu : IntKind.u64.signed = false := rfl
      clear ha h hs hr hlt
      go_enter Tryz.func112, Tryz.ntmps112
      go_wp2
      go_ret
      exact ⟨rfl, Drawn0.refl _⟩
  · cases h
def rialtoref1_Order.f (a0 : Nat) : Option (Int) := if a0 < 18446744073709551616 then some (if a0 < 9223372036854775808 then a0 + 9223372036854775808 else 18446744073709551615 - a0) else none
set_option maxRecDepth 100000 in
theorem rialtoref1_Order.calls (a0 : Nat) (r : Int) (w : World) (h : rialtoref1_Order.f a0 = some r) :
    Calls Tryz.prog 41 #[.float .f64 a0] w fun e w' => e = .returned (.int .u64 r) ∧ Drawn0 w w' := by
  unfold rialtoref1_Order.f at h
  split at h
  · rename_i hlt
    have hr := Option.some.inj h
    have k23 := gv23 a0
    have hu : IntKind.u64.signed = false := rfl
    by_cases hs : a0 < 9223372036854775808
    · rw [if_pos hs] at hr
      have ho := or63 a0 hs
      have hb : ((a0 : Int) / 9223372036854775808 == 0) = true := by simp; omega
      have ho' : Go.bits .or .u64 (a0 : Int) 9223372036854775808 = r := by rw [ho, ← hr]; rfl
      clear ho hr h hs hlt
      go_enter Tryz.func41, Tryz.ntmps41
      go_wp2
      go_ret
      exact ⟨rfl, Drawn0.refl _⟩
    · rw [if_neg hs] at hr
      have hb : ((a0 : Int) / 9223372036854775808 == 0) = false := by simp; omega
      have hx : Go.bits .xor .u64 IntKind.u64.max (a0 : Int) = r := by rw [xor63 a0 hlt, hr]
      clear h hs hr hlt
      go_enter Tryz.func41, Tryz.ntmps41
      go_wp2
      go_ret
      exact ⟨rfl, Drawn0.refl _⟩
  · cases h
def strings_Compare.f (a0 : ByteArray) (a1 : ByteArray) : Option (Int) := some (Lib.compareBytes a0.data.toList a1.data.toList)
theorem strings_Compare.calls (a0 : ByteArray) (a1 : ByteArray) (r : Int) (w : World) (h : strings_Compare.f a0 a1 = some r) :
    Calls Tryz.prog 39 #[.string a0, .string a1] w fun e w' => e = .returned (.int .i64 r) ∧ Drawn0 w w' := by
  obtain rfl := Option.some.inj h
  exact (Any.strings_Compare Tryz.cmp106 a0 a1 w).mono fun e w' ⟨he, hw⟩ => ⟨he, by subst hw; exact Drawn0.refl _⟩
end Go.Proofs.YtlpmfiamelahjaaGreatDoor.Gvn
namespace Go.Proofs.YtlpmfiamelahjaaGreatDoor.Px
open Go.RowKit Go.Proofs.YtlpmfiamelahjaaGreatDoor.Gvn Go.Proofs.YtlpmfiamelahjaaGreatDoorW.PrintWords Go.Proofs.YtlpmfiamelahjaaGreatDoorW.PrintLast Go.Proofs.YtlpmfiamelahjaaGreatDoorW.PrintMore
attribute [local go_sem] run_store_float
set_option linter.unusedVariables false
set_option linter.unusedSimpArgs false
def errW : Option Int → Value
 | none => .nilIface
 | some c => .iface 0 (.int .i64 c)
theorem errW_none : errW none = .nilIface := rfl
theorem errW_some (c : Int) : errW (some c) = .iface 0 (.int .i64 c) := rfl
theorem run113 (b : Nat) (w : World) : (callFunc 113 #[.float .f64 b]).run Tryz.prog w = .ok (.value (.int .u64 b)) w := by kernel_rfl
theorem run209 (b : Int) (w : World) : (callFunc 209 #[.int .u64 b]).run Tryz.prog w = .ok (.value (.float .f64 b.toNat)) w := by kernel_rfl
structure S27 where
 f0 : Int
 f1 : Int
 f2 : ByteArray
 f3 : Nat
def k27 : Kd S27 := Kd.iso (Kd.pair (Kd.int .i64) (Kd.pair (Kd.int .i64) (Kd.pair Kd.string (Kd.scalar (Value.float .f64) (fun _ => rfl))))) (fun x : S27 => (x.f0, x.f1, x.f2, x.f3))
def rialtolaw21_num.f (a0 : Int) : Option (Int × Int × ByteArray × Nat) := some (1, a0, (⟨#[]⟩ : ByteArray), 0)
set_option maxHeartbeats 8000000 in
set_option maxRecDepth 100000 in
theorem rialtolaw21_num.calls (a0 : Int) (r1 : Int) (r2 : Int) (r3 : ByteArray) (r4 : Nat) (w : World) (h : rialtolaw21_num.f a0 = some (r1, r2, r3, r4)) :
  Calls Tryz.prog 5 #[.int .i64 a0] w fun e w' => e = .returned (.agg #[.int .i64 r1, .int .i64 r2, .string r3, .float .f64 r4]) ∧ Below w.heap.size w w' := by
 have hu27 := Tryz.underlying27
 have HB := Aside0.mk (Below.refl w.heap.size w)
 have H : (some (1, a0, (⟨#[]⟩ : ByteArray), 0)) = some (r1, r2, r3, r4) := h
 clear h
 simp only [Option.some.injEq, Prod.mk.injEq] at H
 obtain ⟨rfl, rfl, rfl, rfl⟩ := H
 have k113 := run113
 have k209 := run209
 go_enter Tryz.func5, Tryz.ntmps5
 go_wp2_with (first | ((with_reducible refine gate_dst (N := 2) rfl ?_); refine box_event ?hg (N := 2) ?hd (cs := #[.int .i64 0, .int .i64 0, .string (⟨#[]⟩ : ByteArray), .float .f64 0]) (t := 27) ?hr ?_; (case hd => rfl); (case hg => rfl); (case hr => first | (go_simp; done) | (go_simp; rfl)); intro gb101 hg w2 hbox hb; have n0_ := Aside0.mk (below_step (by repeat (first | (with_reducible first | exact HB.out | apply below_alloc | apply pw_below_drewN | apply below_drew1) | exact HB.out)) hb); have n1_ := Aside0.mk (hbox); have n2_ := Aside0.mk ((by rw [hg]; exact (below_size (by repeat (first | (with_reducible first | exact HB.out | apply below_alloc | apply pw_below_drewN | apply below_drew1) | exact HB.out))) : w.heap.size ≤ gb101)); have n3_ := Aside0.mk ((by rw [hg]; exact (below_size (by repeat (first | (with_reducible first | exact HB.out | apply below_alloc | apply pw_below_drewN | apply below_drew1) | exact HB.out))) : w.heap.size ≤ gb101)); clear HB; have HB := n0_; have BK101 := n1_; have GW101 := n2_; have GE101 := n3_; clear n0_ n1_ n2_ n3_; clear hb hbox hg; have hcz3_0 : w2.cell? ⟨gb101, 0, none⟩ = some (.int .i64 0) := (blk_cell BK101.out 0).trans rfl; have hcz3_1 : w2.cell? ⟨gb101, 1, none⟩ = some (.int .i64 0) := (blk_cell BK101.out 1).trans rfl; have hcz3_2 : w2.cell? ⟨gb101, 2, none⟩ = some (.string (⟨#[]⟩ : ByteArray)) := (blk_cell BK101.out 2).trans rfl; have hcz3_3 : w2.cell? ⟨gb101, 3, none⟩ = some (.float .f64 0) := (blk_cell BK101.out 3).trans rfl; have hfz3_0 := blk_frozen BK101.out 0; have hfz3_1 := blk_frozen BK101.out 1; have hfz3_2 := blk_frozen BK101.out 2; have hfz3_3 := blk_frozen BK101.out 3))
 refine bodyPost_ret (results_cell_row rfl _ _ gb101 27 #[.int .i64 1, .int .i64 a0, .string (⟨#[]⟩ : ByteArray), .float .f64 0] (0, 0) _ rfl (by (with_reducible repeat (first | refine blk_drewN ?_ _ | refine blk_drew ?_ | refine blk_alloc ?_ _)); refine blk_put (cs := #[.int .i64 1, .int .i64 a0, .string (⟨#[]⟩ : ByteArray), .float .f64 0]) ?_ 3 _ rfl; (with_reducible repeat (first | refine blk_drewN ?_ _ | refine blk_drew ?_ | refine blk_alloc ?_ _)); refine blk_put (cs := #[.int .i64 1, .int .i64 a0, .string (⟨#[]⟩ : ByteArray), .float .f64 0]) ?_ 2 _ rfl; (with_reducible repeat (first | refine blk_drewN ?_ _ | refine blk_drew ?_ | refine blk_alloc ?_ _)); refine blk_put (cs := #[.int .i64 1, .int .i64 0, .string (⟨#[]⟩ : ByteArray), .float .f64 0]) ?_ 1 _ rfl; (with_reducible repeat (first | refine blk_drewN ?_ _ | refine blk_drew ?_ | refine blk_alloc ?_ _)); refine blk_put (cs := #[.int .i64 0, .int .i64 0, .string (⟨#[]⟩ : ByteArray), .float .f64 0]) ?_ 0 _ rfl; (with_reducible repeat (first | refine blk_drewN ?_ _ | refine blk_drew ?_ | refine blk_alloc ?_ _)); exact BK101.out) Tryz.underlying27 rfl (by kernel_rfl)) rfl ?_
 exact ⟨by first | rfl | (simp [errW_none, errW_some] <;> rfl) | (simp [*, errW_none, errW_some] <;> rfl), by repeat (first | (with_reducible first | exact HB.out | apply below_alloc | apply pw_below_drewN | apply below_drew1 | refine below_set ?_ GE101.out) | exact HB.out)⟩
def rialtoref2_sign.f (a0 : Bool) : Option (Int) := if a0 = true then (some (-1)) else (some 1)
set_option maxHeartbeats 8000000 in
set_option maxRecDepth 100000 in
theorem rialtoref2_sign.calls (a0 : Bool) (r : Int) (w : World) (h : rialtoref2_sign.f a0 = some r) :
  Calls Tryz.prog 13 #[.bool a0] w fun e w' => e = .returned (.int .i64 r) ∧ Drawn0 w w' := by
 have H : (if a0 = true then (some (-1)) else (some 1)) = some r := h
 clear h
 by_cases c2 : a0 = true
 ·subst c2
  have H1 : (some (-1)) = some r := by rw [if_pos rfl] at H; exact H
  clear H
  have H := H1
  clear H1
  obtain rfl := Option.some.inj H
  have k113 := run113
  have k209 := run209
  go_enter Tryz.func13, Tryz.ntmps13
  go_wp2
  go_ret
  exact ⟨by first | rfl | (simp; done) | (simp [*]; done), by repeat (first | exact Drawn0.refl _ | apply Drawn0.step)⟩
 ·replace c2 := Bool.eq_false_iff.mpr c2
  subst c2
  have H1 : (some 1) = some r := by rw [if_neg (show ¬ (false = true) by decide)] at H; exact H
  clear H
  have H := H1
  clear H1
  obtain rfl := Option.some.inj H
  have k113 := run113
  have k209 := run209
  go_enter Tryz.func13, Tryz.ntmps13
  go_wp2
  go_ret
  exact ⟨by first | rfl | (simp; done) | (simp [*]; done), by repeat (first | exact Drawn0.refl _ | apply Drawn0.step)⟩
def rialtoref1_Compare.f (a0 : Nat) (a1 : Nat) : Option (Int) := (rialtoref1_Order.f a0).bind fun t337 => ((rialtoref1_Order.f a1).bind fun t338 => (if t337 < t338 then (some (-1)) else (if t337 > t338 then (some 1) else (some 0))))
set_option maxHeartbeats 8000000 in
set_option maxRecDepth 100000 in
theorem rialtoref1_Compare.calls (a0 : Nat) (a1 : Nat) (r : Int) (w : World) (h : rialtoref1_Compare.f a0 a1 = some r) :
  Calls Tryz.prog 14 #[.float .f64 a0, .float .f64 a1] w fun e w' => e = .returned (.int .i64 r) ∧ Drawn0 w w' := by
 have H : ((rialtoref1_Order.f a0).bind fun t337 => ((rialtoref1_Order.f a1).bind fun t338 => (if t337 < t338 then (some (-1)) else (if t337 > t338 then (some 1) else (some 0))))) = some r := h
 clear h
 replace H := Option.bind_eq_some_iff.mp H
 obtain ⟨t337, A30, H⟩ := H
 replace H : ((rialtoref1_Order.f a1).bind fun t338 => (if t337 < t338 then (some (-1)) else (if t337 > t338 then (some 1) else (some 0)))) = some r := H
 have A3 := Aside0.mk A30
 clear A30
 replace H := Option.bind_eq_some_iff.mp H
 obtain ⟨t338, A40, H⟩ := H
 replace H : (if t337 < t338 then (some (-1)) else (if t337 > t338 then (some 1) else (some 0))) = some r := H
 have A4 := Aside0.mk A40
 clear A40
 by_cases c5 : t337 < t338
 ·rw [if_pos c5] at H
  have c5b0 : decide (t337 < t338) = true := decide_eq_true c5
  clear c5
  obtain rfl := Option.some.inj H
  have k113 := run113
  have k209 := run209
  go_enter Tryz.func14, Tryz.ntmps14
  go_wp2_with (first | ((with_reducible refine gate_callee (f := 41) rfl ?_); refine goesL_ (some 8) rfl rfl Tryz.func41 (by kernel_rfl) rfl #[.float .f64 a0] rfl (by (try simp only [List.map_toArray, List.map_cons, List.map_nil]); first | done | rfl | (simp only [List.length_drop, List.length_take]; rfl)) ?_; (with_reducible refine (rialtoref1_Order.calls a0 t337 _ A3.out).mono ?_); rintro e w' ⟨rfl, ⟨nd, rfl⟩⟩; refine ⟨_, rfl, ?_⟩) | ((with_reducible refine gate_callee (f := 41) rfl ?_); refine goesL_ (some 10) rfl rfl Tryz.func41 (by kernel_rfl) rfl #[.float .f64 a1] rfl (by (try simp only [List.map_toArray, List.map_cons, List.map_nil]); first | done | rfl | (simp only [List.length_drop, List.length_take]; rfl)) ?_; (with_reducible refine (rialtoref1_Order.calls a1 t338 _ A4.out).mono ?_); rintro e w' ⟨rfl, ⟨nd, rfl⟩⟩; refine ⟨_, rfl, ?_⟩))
  go_ret
  exact ⟨by first | rfl | (simp; done) | (simp [*]; done), by repeat (first | exact Drawn0.refl _ | apply Drawn0.step)⟩
 ·rw [if_neg c5] at H
  have c5b0 : decide (t337 < t338) = false := decide_eq_false c5
  clear c5
  by_cases c6 : t337 > t338
  ·rw [if_pos c6] at H
   have c6b0 : decide (t338 < t337) = true := decide_eq_true c6
   clear c6
   obtain rfl := Option.some.inj H
   have k113 := run113
   have k209 := run209
   go_enter Tryz.func14, Tryz.ntmps14
   go_wp2_with (first | ((with_reducible refine gate_callee (f := 41) rfl ?_); refine goesL_ (some 8) rfl rfl Tryz.func41 (by kernel_rfl) rfl #[.float .f64 a0] rfl (by (try simp only [List.map_toArray, List.map_cons, List.map_nil]); first | done | rfl | (simp only [List.length_drop, List.length_take]; rfl)) ?_; (with_reducible refine (rialtoref1_Order.calls a0 t337 _ A3.out).mono ?_); rintro e w' ⟨rfl, ⟨nd, rfl⟩⟩; refine ⟨_, rfl, ?_⟩) | ((with_reducible refine gate_callee (f := 41) rfl ?_); refine goesL_ (some 10) rfl rfl Tryz.func41 (by kernel_rfl) rfl #[.float .f64 a1] rfl (by (try simp only [List.map_toArray, List.map_cons, List.map_nil]); first | done | rfl | (simp only [List.length_drop, List.length_take]; rfl)) ?_; (with_reducible refine (rialtoref1_Order.calls a1 t338 _ A4.out).mono ?_); rintro e w' ⟨rfl, ⟨nd, rfl⟩⟩; refine ⟨_, rfl, ?_⟩))
   go_ret
   exact ⟨by first | rfl | (simp; done) | (simp [*]; done), by repeat (first | exact Drawn0.refl _ | apply Drawn0.step)⟩
  ·rw [if_neg c6] at H
   have c6b0 : decide (t338 < t337) = false := decide_eq_false c6
   clear c6
   obtain rfl := Option.some.inj H
   have k113 := run113
   have k209 := run209
   go_enter Tryz.func14, Tryz.ntmps14
   go_wp2_with (first | ((with_reducible refine gate_callee (f := 41) rfl ?_); refine goesL_ (some 8) rfl rfl Tryz.func41 (by kernel_rfl) rfl #[.float .f64 a0] rfl (by (try simp only [List.map_toArray, List.map_cons, List.map_nil]); first | done | rfl | (simp only [List.length_drop, List.length_take]; rfl)) ?_; (with_reducible refine (rialtoref1_Order.calls a0 t337 _ A3.out).mono ?_); rintro e w' ⟨rfl, ⟨nd, rfl⟩⟩; refine ⟨_, rfl, ?_⟩) | ((with_reducible refine gate_callee (f := 41) rfl ?_); refine goesL_ (some 10) rfl rfl Tryz.func41 (by kernel_rfl) rfl #[.float .f64 a1] rfl (by (try simp only [List.map_toArray, List.map_cons, List.map_nil]); first | done | rfl | (simp only [List.length_drop, List.length_take]; rfl)) ?_; (with_reducible refine (rialtoref1_Order.calls a1 t338 _ A4.out).mono ?_); rintro e w' ⟨rfl, ⟨nd, rfl⟩⟩; refine ⟨_, rfl, ?_⟩))
   go_ret
   exact ⟨by first | rfl | (simp; done) | (simp [*]; done), by repeat (first | exact Drawn0.refl _ | apply Drawn0.step)⟩
def rialtoref2_Compare.f (a0_0 : Int) (a0_1 : Int) (a0_2 : ByteArray) (a0_3 : Nat) (a1_0 : Int) (a1_1 : Int) (a1_2 : ByteArray) (a1_3 : Nat) : Option (Int) := if a0_0 = a1_0 then (if a0_1 = a1_1 then (if a0_2.toList = a1_2.toList then ((rialtoref1_Compare.f a0_3 a1_3).bind fun t341 => (some t341)) else ((rialtoref2_sign.f (Op.bytesLess a0_2.toList a1_2.toList)).bind fun t342 => (some t342))) else ((rialtoref2_sign.f (decide (a0_1 < a1_1))).bind fun t343 => (some t343))) else ((rialtoref2_sign.f (decide (a0_0 < a1_0))).bind fun t344 => (some t344))
set_option maxHeartbeats 8000000 in
set_option maxRecDepth 100000 in
theorem rialtoref2_Compare.calls (a0_0 : Int) (a0_1 : Int) (a0_2 : ByteArray) (a0_3 : Nat) (a1_0 : Int) (a1_1 : Int) (a1_2 : ByteArray) (a1_3 : Nat) (r : Int) (w : World) (h : rialtoref2_Compare.f a0_0 a0_1 a0_2 a0_3 a1_0 a1_1 a1_2 a1_3 = some r) :
  Calls Tryz.prog 7 #[.agg #[.int .i64 a0_0, .int .i64 a0_1, .string a0_2, .float .f64 a0_3], .agg #[.int .i64 a1_0, .int .i64 a1_1, .string a1_2, .float .f64 a1_3]] w fun e w' => e = .returned (.int .i64 r) ∧ Below w.heap.size w w' := by
 have hu27 := Tryz.underlying27
 have HB := Aside0.mk (Below.refl w.heap.size w)
 have H : (if a0_0 = a1_0 then (if a0_1 = a1_1 then (if a0_2.toList = a1_2.toList then ((rialtoref1_Compare.f a0_3 a1_3).bind fun t341 => (some t341)) else ((rialtoref2_sign.f (Op.bytesLess a0_2.toList a1_2.toList)).bind fun t342 => (some t342))) else ((rialtoref2_sign.f (decide (a0_1 < a1_1))).bind fun t343 => (some t343))) else ((rialtoref2_sign.f (decide (a0_0 < a1_0))).bind fun t344 => (some t344))) = some r := h
 clear h
 by_cases c3 : a0_0 = a1_0
 ·rw [if_pos c3] at H
  have c3b0 : (a0_0 == a1_0) = true := beq_iff_eq.mpr c3
  have c3b1 : (a0_0 != a1_0) = false := bne_eq_false_iff_eq.mpr c3
  clear c3
  by_cases c4 : a0_1 = a1_1
  ·rw [if_pos c4] at H
   have c4b0 : (a0_1 == a1_1) = true := beq_iff_eq.mpr c4
   have c4b1 : (a0_1 != a1_1) = false := bne_eq_false_iff_eq.mpr c4
   clear c4
   by_cases c5 : a0_2.toList = a1_2.toList
   ·rw [if_pos c5] at H
    have c5b0 : (a0_2.toList == a1_2.toList) = true := beq_iff_eq.mpr c5
    have c5b1 : (a0_2.toList != a1_2.toList) = false := bne_eq_false_iff_eq.mpr c5
    clear c5
    replace H := Option.bind_eq_some_iff.mp H
    obtain ⟨t341, A60, H⟩ := H
    replace H : (some t341) = some r := H
    have A6 := Aside0.mk A60
    clear A60
    obtain rfl := Option.some.inj H
    have k113 := run113
    have k209 := run209
    go_enter Tryz.func7, Tryz.ntmps7
    go_wp2_with (first | ((with_reducible refine gate_dst (N := 2) rfl ?_); refine box_event ?hg (N := 2) ?hd (cs := #[.int .i64 a0_0, .int .i64 a0_1, .string a0_2, .float .f64 a0_3]) (t := 27) ?hr ?_; (case hd => rfl); (case hg => rfl); (case hr => first | (go_simp; done) | (go_simp; rfl)); intro gb339 hg w7 hbox hb; have n0_ := Aside0.mk (below_step (by repeat (first | (with_reducible first | exact HB.out | apply below_alloc | apply pw_below_drewN | apply below_drew1) | exact HB.out)) hb); have n1_ := Aside0.mk (hbox); have n2_ := Aside0.mk ((by rw [hg]; exact (below_size (by repeat (first | (with_reducible first | exact HB.out | apply below_alloc | apply pw_below_drewN | apply below_drew1) | exact HB.out))) : w.heap.size ≤ gb339)); have n3_ := Aside0.mk ((by rw [hg]; exact (below_size (by repeat (first | (with_reducible first | exact HB.out | apply below_alloc | apply pw_below_drewN | apply below_drew1) | exact HB.out))) : w.heap.size ≤ gb339)); clear HB; have HB := n0_; have BK339 := n1_; have GW339 := n2_; have GE339 := n3_; clear n0_ n1_ n2_ n3_; clear hb hbox hg) | ((with_reducible refine gate_dst (N := 3) rfl ?_); refine box_event ?hg (N := 3) ?hd (cs := #[.int .i64 a1_0, .int .i64 a1_1, .string a1_2, .float .f64 a1_3]) (t := 27) ?hr ?_; (case hd => rfl); (case hg => rfl); (case hr => first | (go_simp; done) | (go_simp; rfl)); intro gb340 hg w8 hbox hb; have n0_ := Aside0.mk (blk_below (g := gb339) (o := .cells #[.int .i64 a0_0, .int .i64 a0_1, .string a0_2, .float .f64 a0_3] 27 (0, 0)) (by (with_reducible repeat (first | refine blk_drewN ?_ _ | refine blk_drew ?_ | refine blk_alloc ?_ _)); exact BK339.out) hb); have n1_ := Aside0.mk (below_step (by repeat (first | (with_reducible first | exact HB.out | apply below_alloc | apply pw_below_drewN | apply below_drew1 | refine below_set ?_ GE339.out) | exact HB.out)) hb); have n2_ := Aside0.mk (hbox); have n3_ := Aside0.mk ((by rw [hg]; exact (below_size (by repeat (first | (with_reducible first | exact HB.out | apply below_alloc | apply pw_below_drewN | apply below_drew1 | refine below_set ?_ GE339.out) | exact HB.out))) : w.heap.size ≤ gb340)); have n4_ := Aside0.mk ((by rw [hg]; exact (below_size (by repeat (first | (with_reducible first | exact HB.out | apply below_alloc | apply pw_below_drewN | apply below_drew1 | refine below_set ?_ GE339.out) | exact HB.out))) : w.heap.size ≤ gb340)); have n5_ := Aside0.mk ((by rw [hg]; exact Nat.ne_of_lt (blk_lt (g := gb339) (o := .cells #[.int .i64 a0_0, .int .i64 a0_1, .string a0_2, .float .f64 a0_3] 27 (0, 0)) (by (with_reducible repeat (first | refine blk_drewN ?_ _ | refine blk_drew ?_ | refine blk_alloc ?_ _)); exact BK339.out)) : gb339 ≠ gb340)); have n6_ := Aside0.mk ((by rw [hg]; exact Nat.ne_of_gt (blk_lt (g := gb339) (o := .cells #[.int .i64 a0_0, .int .i64 a0_1, .string a0_2, .float .f64 a0_3] 27 (0, 0)) (by (with_reducible repeat (first | refine blk_drewN ?_ _ | refine blk_drew ?_ | refine blk_alloc ?_ _)); exact BK339.out)) : gb340 ≠ gb339)); clear BK339; clear HB; have BK339 := n0_; have HB := n1_; have BK340 := n2_; have GW340 := n3_; have GE340 := n4_; have NB339_340 := n5_; have NB340_339 := n6_; clear n0_ n1_ n2_ n3_ n4_ n5_ n6_; clear hb hbox hg; have hnb9 := NB339_340.out; have hnc9 := NB340_339.out; have hcz10_0 : w8.cell? ⟨gb339, 0, none⟩ = some (.int .i64 a0_0) := (blk_cell BK339.out 0).trans rfl; have hcz10_1 : w8.cell? ⟨gb339, 1, none⟩ = some (.int .i64 a0_1) := (blk_cell BK339.out 1).trans rfl; have hcz10_2 : w8.cell? ⟨gb339, 2, none⟩ = some (.string a0_2) := (blk_cell BK339.out 2).trans rfl; have hcz10_3 : w8.cell? ⟨gb339, 3, none⟩ = some (.float .f64 a0_3) := (blk_cell BK339.out 3).trans rfl; have hfz10_0 := blk_frozen BK339.out 0; have hfz10_1 := blk_frozen BK339.out 1; have hfz10_2 := blk_frozen BK339.out 2; have hfz10_3 := blk_frozen BK339.out 3; have hcz11_0 : w8.cell? ⟨gb340, 0, none⟩ = some (.int .i64 a1_0) := (blk_cell BK340.out 0).trans rfl; have hcz11_1 : w8.cell? ⟨gb340, 1, none⟩ = some (.int .i64 a1_1) := (blk_cell BK340.out 1).trans rfl; have hcz11_2 : w8.cell? ⟨gb340, 2, none⟩ = some (.string a1_2) := (blk_cell BK340.out 2).trans rfl; have hcz11_3 : w8.cell? ⟨gb340, 3, none⟩ = some (.float .f64 a1_3) := (blk_cell BK340.out 3).trans rfl; have hfz11_0 := blk_frozen BK340.out 0; have hfz11_1 := blk_frozen BK340.out 1; have hfz11_2 := blk_frozen BK340.out 2; have hfz11_3 := blk_frozen BK340.out 3) | ((with_reducible refine gate_callee (f := 14) rfl ?_); refine goesL_ (some 45) rfl rfl Tryz.func14 (by kernel_rfl) rfl #[.float .f64 a0_3, .float .f64 a1_3] rfl (by (try simp only [List.map_toArray, List.map_cons, List.map_nil]); first | done | rfl | (simp only [List.length_drop, List.length_take]; rfl)) ?_; (with_reducible refine (rialtoref1_Compare.calls a0_3 a1_3 t341 _ A6.out).mono ?_); rintro e w' ⟨rfl, ⟨nd, rfl⟩⟩; refine ⟨_, rfl, ?_⟩))
    go_ret
    exact ⟨by first | rfl | (simp [errW_none, errW_some] <;> rfl) | (simp [*, errW_none, errW_some] <;> rfl), by repeat (first | (with_reducible first | exact HB.out | apply below_alloc | apply pw_below_drewN | apply below_drew1 | refine below_set ?_ GE339.out | refine below_set ?_ GE340.out) | exact HB.out)⟩
   ·rw [if_neg c5] at H
    have c5b0 : (a0_2.toList == a1_2.toList) = false := beq_eq_false_iff_ne.mpr c5
    have c5b1 : (a0_2.toList != a1_2.toList) = true := bne_iff_ne.mpr c5
    replace H := Option.bind_eq_some_iff.mp H
    obtain ⟨t342, A120, H⟩ := H
    replace H : (some t342) = some r := H
    have A12 := Aside0.mk A120
    clear A120
    obtain rfl := Option.some.inj H
    have k113 := run113
    have k209 := run209
    go_enter Tryz.func7, Tryz.ntmps7
    go_wp2_with (first | ((with_reducible refine gate_dst (N := 2) rfl ?_); refine box_event ?hg (N := 2) ?hd (cs := #[.int .i64 a0_0, .int .i64 a0_1, .string a0_2, .float .f64 a0_3]) (t := 27) ?hr ?_; (case hd => rfl); (case hg => rfl); (case hr => first | (go_simp; done) | (go_simp; rfl)); intro gb339 hg w13 hbox hb; have n0_ := Aside0.mk (below_step (by repeat (first | (with_reducible first | exact HB.out | apply below_alloc | apply pw_below_drewN | apply below_drew1) | exact HB.out)) hb); have n1_ := Aside0.mk (hbox); have n2_ := Aside0.mk ((by rw [hg]; exact (below_size (by repeat (first | (with_reducible first | exact HB.out | apply below_alloc | apply pw_below_drewN | apply below_drew1) | exact HB.out))) : w.heap.size ≤ gb339)); have n3_ := Aside0.mk ((by rw [hg]; exact (below_size (by repeat (first | (with_reducible first | exact HB.out | apply below_alloc | apply pw_below_drewN | apply below_drew1) | exact HB.out))) : w.heap.size ≤ gb339)); clear HB; have HB := n0_; have BK339 := n1_; have GW339 := n2_; have GE339 := n3_; clear n0_ n1_ n2_ n3_; clear hb hbox hg) | ((with_reducible refine gate_dst (N := 3) rfl ?_); refine box_event ?hg (N := 3) ?hd (cs := #[.int .i64 a1_0, .int .i64 a1_1, .string a1_2, .float .f64 a1_3]) (t := 27) ?hr ?_; (case hd => rfl); (case hg => rfl); (case hr => first | (go_simp; done) | (go_simp; rfl)); intro gb340 hg w14 hbox hb; have n0_ := Aside0.mk (blk_below (g := gb339) (o := .cells #[.int .i64 a0_0, .int .i64 a0_1, .string a0_2, .float .f64 a0_3] 27 (0, 0)) (by (with_reducible repeat (first | refine blk_drewN ?_ _ | refine blk_drew ?_ | refine blk_alloc ?_ _)); exact BK339.out) hb); have n1_ := Aside0.mk (below_step (by repeat (first | (with_reducible first | exact HB.out | apply below_alloc | apply pw_below_drewN | apply below_drew1 | refine below_set ?_ GE339.out) | exact HB.out)) hb); have n2_ := Aside0.mk (hbox); have n3_ := Aside0.mk ((by rw [hg]; exact (below_size (by repeat (first | (with_reducible first | exact HB.out | apply below_alloc | apply pw_below_drewN | apply below_drew1 | refine below_set ?_ GE339.out) | exact HB.out))) : w.heap.size ≤ gb340)); have n4_ := Aside0.mk ((by rw [hg]; exact (below_size (by repeat (first | (with_reducible first | exact HB.out | apply below_alloc | apply pw_below_drewN | apply below_drew1 | refine below_set ?_ GE339.out) | exact HB.out))) : w.heap.size ≤ gb340)); have n5_ := Aside0.mk ((by rw [hg]; exact Nat.ne_of_lt (blk_lt (g := gb339) (o := .cells #[.int .i64 a0_0, .int .i64 a0_1, .string a0_2, .float .f64 a0_3] 27 (0, 0)) (by (with_reducible repeat (first | refine blk_drewN ?_ _ | refine blk_drew ?_ | refine blk_alloc ?_ _)); exact BK339.out)) : gb339 ≠ gb340)); have n6_ := Aside0.mk ((by rw [hg]; exact Nat.ne_of_gt (blk_lt (g := gb339) (o := .cells #[.int .i64 a0_0, .int .i64 a0_1, .string a0_2, .float .f64 a0_3] 27 (0, 0)) (by (with_reducible repeat (first | refine blk_drewN ?_ _ | refine blk_drew ?_ | refine blk_alloc ?_ _)); exact BK339.out)) : gb340 ≠ gb339)); clear BK339; clear HB; have BK339 := n0_; have HB := n1_; have BK340 := n2_; have GW340 := n3_; have GE340 := n4_; have NB339_340 := n5_; have NB340_339 := n6_; clear n0_ n1_ n2_ n3_ n4_ n5_ n6_; clear hb hbox hg; have hnb15 := NB339_340.out; have hnc15 := NB340_339.out; have hcz16_0 : w14.cell? ⟨gb339, 0, none⟩ = some (.int .i64 a0_0) := (blk_cell BK339.out 0).trans rfl; have hcz16_1 : w14.cell? ⟨gb339, 1, none⟩ = some (.int .i64 a0_1) := (blk_cell BK339.out 1).trans rfl; have hcz16_2 : w14.cell? ⟨gb339, 2, none⟩ = some (.string a0_2) := (blk_cell BK339.out 2).trans rfl; have hcz16_3 : w14.cell? ⟨gb339, 3, none⟩ = some (.float .f64 a0_3) := (blk_cell BK339.out 3).trans rfl; have hfz16_0 := blk_frozen BK339.out 0; have hfz16_1 := blk_frozen BK339.out 1; have hfz16_2 := blk_frozen BK339.out 2; have hfz16_3 := blk_frozen BK339.out 3; have hcz17_0 : w14.cell? ⟨gb340, 0, none⟩ = some (.int .i64 a1_0) := (blk_cell BK340.out 0).trans rfl; have hcz17_1 : w14.cell? ⟨gb340, 1, none⟩ = some (.int .i64 a1_1) := (blk_cell BK340.out 1).trans rfl; have hcz17_2 : w14.cell? ⟨gb340, 2, none⟩ = some (.string a1_2) := (blk_cell BK340.out 2).trans rfl; have hcz17_3 : w14.cell? ⟨gb340, 3, none⟩ = some (.float .f64 a1_3) := (blk_cell BK340.out 3).trans rfl; have hfz17_0 := blk_frozen BK340.out 0; have hfz17_1 := blk_frozen BK340.out 1; have hfz17_2 := blk_frozen BK340.out 2; have hfz17_3 := blk_frozen BK340.out 3) | ((with_reducible refine gate_callee (f := 13) rfl ?_); refine goesL_ (some 40) rfl rfl Tryz.func13 (by kernel_rfl) rfl #[.bool (Op.bytesLess a0_2.toList a1_2.toList)] rfl (by (try simp only [List.map_toArray, List.map_cons, List.map_nil]); first | done | rfl | (simp only [List.length_drop, List.length_take]; rfl)) ?_; (with_reducible refine (rialtoref2_sign.calls (Op.bytesLess a0_2.toList a1_2.toList) t342 _ A12.out).mono ?_); rintro e w' ⟨rfl, ⟨nd, rfl⟩⟩; refine ⟨_, rfl, ?_⟩))
    go_ret
    exact ⟨by first | rfl | (simp [errW_none, errW_some] <;> rfl) | (simp [*, errW_none, errW_some] <;> rfl), by repeat (first | (with_reducible first | exact HB.out | apply below_alloc | apply pw_below_drewN | apply below_drew1 | refine below_set ?_ GE339.out | refine below_set ?_ GE340.out) | exact HB.out)⟩
  ·rw [if_neg c4] at H
   have c4b0 : (a0_1 == a1_1) = false := beq_eq_false_iff_ne.mpr c4
   have c4b1 : (a0_1 != a1_1) = true := bne_iff_ne.mpr c4
   replace H := Option.bind_eq_some_iff.mp H
   obtain ⟨t343, A180, H⟩ := H
   replace H : (some t343) = some r := H
   have A18 := Aside0.mk A180
   clear A180
   obtain rfl := Option.some.inj H
   have k113 := run113
   have k209 := run209
   go_enter Tryz.func7, Tryz.ntmps7
   go_wp2_with (first | ((with_reducible refine gate_dst (N := 2) rfl ?_); refine box_event ?hg (N := 2) ?hd (cs := #[.int .i64 a0_0, .int .i64 a0_1, .string a0_2, .float .f64 a0_3]) (t := 27) ?hr ?_; (case hd => rfl); (case hg => rfl); (case hr => first | (go_simp; done) | (go_simp; rfl)); intro gb339 hg w19 hbox hb; have n0_ := Aside0.mk (below_step (by repeat (first | (with_reducible first | exact HB.out | apply below_alloc | apply pw_below_drewN | apply below_drew1) | exact HB.out)) hb); have n1_ := Aside0.mk (hbox); have n2_ := Aside0.mk ((by rw [hg]; exact (below_size (by repeat (first | (with_reducible first | exact HB.out | apply below_alloc | apply pw_below_drewN | apply below_drew1) | exact HB.out))) : w.heap.size ≤ gb339)); have n3_ := Aside0.mk ((by rw [hg]; exact (below_size (by repeat (first | (with_reducible first | exact HB.out | apply below_alloc | apply pw_below_drewN | apply below_drew1) | exact HB.out))) : w.heap.size ≤ gb339)); clear HB; have HB := n0_; have BK339 := n1_; have GW339 := n2_; have GE339 := n3_; clear n0_ n1_ n2_ n3_; clear hb hbox hg) | ((with_reducible refine gate_dst (N := 3) rfl ?_); refine box_event ?hg (N := 3) ?hd (cs := #[.int .i64 a1_0, .int .i64 a1_1, .string a1_2, .float .f64 a1_3]) (t := 27) ?hr ?_; (case hd => rfl); (case hg => rfl); (case hr => first | (go_simp; done) | (go_simp; rfl)); intro gb340 hg w20 hbox hb; have n0_ := Aside0.mk (blk_below (g := gb339) (o := .cells #[.int .i64 a0_0, .int .i64 a0_1, .string a0_2, .float .f64 a0_3] 27 (0, 0)) (by (with_reducible repeat (first | refine blk_drewN ?_ _ | refine blk_drew ?_ | refine blk_alloc ?_ _)); exact BK339.out) hb); have n1_ := Aside0.mk (below_step (by repeat (first | (with_reducible first | exact HB.out | apply below_alloc | apply pw_below_drewN | apply below_drew1 | refine below_set ?_ GE339.out) | exact HB.out)) hb); have n2_ := Aside0.mk (hbox); have n3_ := Aside0.mk ((by rw [hg]; exact (below_size (by repeat (first | (with_reducible first | exact HB.out | apply below_alloc | apply pw_below_drewN | apply below_drew1 | refine below_set ?_ GE339.out) | exact HB.out))) : w.heap.size ≤ gb340)); have n4_ := Aside0.mk ((by rw [hg]; exact (below_size (by repeat (first | (with_reducible first | exact HB.out | apply below_alloc | apply pw_below_drewN | apply below_drew1 | refine below_set ?_ GE339.out) | exact HB.out))) : w.heap.size ≤ gb340)); have n5_ := Aside0.mk ((by rw [hg]; exact Nat.ne_of_lt (blk_lt (g := gb339) (o := .cells #[.int .i64 a0_0, .int .i64 a0_1, .string a0_2, .float .f64 a0_3] 27 (0, 0)) (by (with_reducible repeat (first | refine blk_drewN ?_ _ | refine blk_drew ?_ | refine blk_alloc ?_ _)); exact BK339.out)) : gb339 ≠ gb340)); have n6_ := Aside0.mk ((by rw [hg]; exact Nat.ne_of_gt (blk_lt (g := gb339) (o := .cells #[.int .i64 a0_0, .int .i64 a0_1, .string a0_2, .float .f64 a0_3] 27 (0, 0)) (by (with_reducible repeat (first | refine blk_drewN ?_ _ | refine blk_drew ?_ | refine blk_alloc ?_ _)); exact BK339.out)) : gb340 ≠ gb339)); clear BK339; clear HB; have BK339 := n0_; have HB := n1_; have BK340 := n2_; have GW340 := n3_; have GE340 := n4_; have NB339_340 := n5_; have NB340_339 := n6_; clear n0_ n1_ n2_ n3_ n4_ n5_ n6_; clear hb hbox hg; have hnb21 := NB339_340.out; have hnc21 := NB340_339.out; have hcz22_0 : w20.cell? ⟨gb339, 0, none⟩ = some (.int .i64 a0_0) := (blk_cell BK339.out 0).trans rfl; have hcz22_1 : w20.cell? ⟨gb339, 1, none⟩ = some (.int .i64 a0_1) := (blk_cell BK339.out 1).trans rfl; have hcz22_2 : w20.cell? ⟨gb339, 2, none⟩ = some (.string a0_2) := (blk_cell BK339.out 2).trans rfl; have hcz22_3 : w20.cell? ⟨gb339, 3, none⟩ = some (.float .f64 a0_3) := (blk_cell BK339.out 3).trans rfl; have hfz22_0 := blk_frozen BK339.out 0; have hfz22_1 := blk_frozen BK339.out 1; have hfz22_2 := blk_frozen BK339.out 2; have hfz22_3 := blk_frozen BK339.out 3; have hcz23_0 : w20.cell? ⟨gb340, 0, none⟩ = some (.int .i64 a1_0) := (blk_cell BK340.out 0).trans rfl; have hcz23_1 : w20.cell? ⟨gb340, 1, none⟩ = some (.int .i64 a1_1) := (blk_cell BK340.out 1).trans rfl; have hcz23_2 : w20.cell? ⟨gb340, 2, none⟩ = some (.string a1_2) := (blk_cell BK340.out 2).trans rfl; have hcz23_3 : w20.cell? ⟨gb340, 3, none⟩ = some (.float .f64 a1_3) := (blk_cell BK340.out 3).trans rfl; have hfz23_0 := blk_frozen BK340.out 0; have hfz23_1 := blk_frozen BK340.out 1; have hfz23_2 := blk_frozen BK340.out 2; have hfz23_3 := blk_frozen BK340.out 3) | ((with_reducible refine gate_callee (f := 13) rfl ?_); refine goesL_ (some 28) rfl rfl Tryz.func13 (by kernel_rfl) rfl #[.bool (decide (a0_1 < a1_1))] rfl (by (try simp only [List.map_toArray, List.map_cons, List.map_nil]); first | done | rfl | (simp only [List.length_drop, List.length_take]; rfl)) ?_; (with_reducible refine (rialtoref2_sign.calls (decide (a0_1 < a1_1)) t343 _ A18.out).mono ?_); rintro e w' ⟨rfl, ⟨nd, rfl⟩⟩; refine ⟨_, rfl, ?_⟩))
   go_ret
   exact ⟨by first | rfl | (simp [errW_none, errW_some] <;> rfl) | (simp [*, errW_none, errW_some] <;> rfl), by repeat (first | (with_reducible first | exact HB.out | apply below_alloc | apply pw_below_drewN | apply below_drew1 | refine below_set ?_ GE339.out | refine below_set ?_ GE340.out) | exact HB.out)⟩
 ·rw [if_neg c3] at H
  have c3b0 : (a0_0 == a1_0) = false := beq_eq_false_iff_ne.mpr c3
  have c3b1 : (a0_0 != a1_0) = true := bne_iff_ne.mpr c3
  replace H := Option.bind_eq_some_iff.mp H
  obtain ⟨t344, A240, H⟩ := H
  replace H : (some t344) = some r := H
  have A24 := Aside0.mk A240
  clear A240
  obtain rfl := Option.some.inj H
  have k113 := run113
  have k209 := run209
  go_enter Tryz.func7, Tryz.ntmps7
  go_wp2_with (first | ((with_reducible refine gate_dst (N := 2) rfl ?_); refine box_event ?hg (N := 2) ?hd (cs := #[.int .i64 a0_0, .int .i64 a0_1, .string a0_2, .float .f64 a0_3]) (t := 27) ?hr ?_; (case hd => rfl); (case hg => rfl); (case hr => first | (go_simp; done) | (go_simp; rfl)); intro gb339 hg w25 hbox hb; have n0_ := Aside0.mk (below_step (by repeat (first | (with_reducible first | exact HB.out | apply below_alloc | apply pw_below_drewN | apply below_drew1) | exact HB.out)) hb); have n1_ := Aside0.mk (hbox); have n2_ := Aside0.mk ((by rw [hg]; exact (below_size (by repeat (first | (with_reducible first | exact HB.out | apply below_alloc | apply pw_below_drewN | apply below_drew1) | exact HB.out))) : w.heap.size ≤ gb339)); have n3_ := Aside0.mk ((by rw [hg]; exact (below_size (by repeat (first | (with_reducible first | exact HB.out | apply below_alloc | apply pw_below_drewN | apply below_drew1) | exact HB.out))) : w.heap.size ≤ gb339)); clear HB; have HB := n0_; have BK339 := n1_; have GW339 := n2_; have GE339 := n3_; clear n0_ n1_ n2_ n3_; clear hb hbox hg) | ((with_reducible refine gate_dst (N := 3) rfl ?_); refine box_event ?hg (N := 3) ?hd (cs := #[.int .i64 a1_0, .int .i64 a1_1, .string a1_2, .float .f64 a1_3]) (t := 27) ?hr ?_; (case hd => rfl); (case hg => rfl); (case hr => first | (go_simp; done) | (go_simp; rfl)); intro gb340 hg w26 hbox hb; have n0_ := Aside0.mk (blk_below (g := gb339) (o := .cells #[.int .i64 a0_0, .int .i64 a0_1, .string a0_2, .float .f64 a0_3] 27 (0, 0)) (by (with_reducible repeat (first | refine blk_drewN ?_ _ | refine blk_drew ?_ | refine blk_alloc ?_ _)); exact BK339.out) hb); have n1_ := Aside0.mk (below_step (by repeat (first | (with_reducible first | exact HB.out | apply below_alloc | apply pw_below_drewN | apply below_drew1 | refine below_set ?_ GE339.out) | exact HB.out)) hb); have n2_ := Aside0.mk (hbox); have n3_ := Aside0.mk ((by rw [hg]; exact (below_size (by repeat (first | (with_reducible first | exact HB.out | apply below_alloc | apply pw_below_drewN | apply below_drew1 | refine below_set ?_ GE339.out) | exact HB.out))) : w.heap.size ≤ gb340)); have n4_ := Aside0.mk ((by rw [hg]; exact (below_size (by repeat (first | (with_reducible first | exact HB.out | apply below_alloc | apply pw_below_drewN | apply below_drew1 | refine below_set ?_ GE339.out) | exact HB.out))) : w.heap.size ≤ gb340)); have n5_ := Aside0.mk ((by rw [hg]; exact Nat.ne_of_lt (blk_lt (g := gb339) (o := .cells #[.int .i64 a0_0, .int .i64 a0_1, .string a0_2, .float .f64 a0_3] 27 (0, 0)) (by (with_reducible repeat (first | refine blk_drewN ?_ _ | refine blk_drew ?_ | refine blk_alloc ?_ _)); exact BK339.out)) : gb339 ≠ gb340)); have n6_ := Aside0.mk ((by rw [hg]; exact Nat.ne_of_gt (blk_lt (g := gb339) (o := .cells #[.int .i64 a0_0, .int .i64 a0_1, .string a0_2, .float .f64 a0_3] 27 (0, 0)) (by (with_reducible repeat (first | refine blk_drewN ?_ _ | refine blk_drew ?_ | refine blk_alloc ?_ _)); exact BK339.out)) : gb340 ≠ gb339)); clear BK339; clear HB; have BK339 := n0_; have HB := n1_; have BK340 := n2_; have GW340 := n3_; have GE340 := n4_; have NB339_340 := n5_; have NB340_339 := n6_; clear n0_ n1_ n2_ n3_ n4_ n5_ n6_; clear hb hbox hg; have hnb27 := NB339_340.out; have hnc27 := NB340_339.out; have hcz28_0 : w26.cell? ⟨gb339, 0, none⟩ = some (.int .i64 a0_0) := (blk_cell BK339.out 0).trans rfl; have hcz28_1 : w26.cell? ⟨gb339, 1, none⟩ = some (.int .i64 a0_1) := (blk_cell BK339.out 1).trans rfl; have hcz28_2 : w26.cell? ⟨gb339, 2, none⟩ = some (.string a0_2) := (blk_cell BK339.out 2).trans rfl; have hcz28_3 : w26.cell? ⟨gb339, 3, none⟩ = some (.float .f64 a0_3) := (blk_cell BK339.out 3).trans rfl; have hfz28_0 := blk_frozen BK339.out 0; have hfz28_1 := blk_frozen BK339.out 1; have hfz28_2 := blk_frozen BK339.out 2; have hfz28_3 := blk_frozen BK339.out 3; have hcz29_0 : w26.cell? ⟨gb340, 0, none⟩ = some (.int .i64 a1_0) := (blk_cell BK340.out 0).trans rfl; have hcz29_1 : w26.cell? ⟨gb340, 1, none⟩ = some (.int .i64 a1_1) := (blk_cell BK340.out 1).trans rfl; have hcz29_2 : w26.cell? ⟨gb340, 2, none⟩ = some (.string a1_2) := (blk_cell BK340.out 2).trans rfl; have hcz29_3 : w26.cell? ⟨gb340, 3, none⟩ = some (.float .f64 a1_3) := (blk_cell BK340.out 3).trans rfl; have hfz29_0 := blk_frozen BK340.out 0; have hfz29_1 := blk_frozen BK340.out 1; have hfz29_2 := blk_frozen BK340.out 2; have hfz29_3 := blk_frozen BK340.out 3) | ((with_reducible refine gate_callee (f := 13) rfl ?_); refine goesL_ (some 16) rfl rfl Tryz.func13 (by kernel_rfl) rfl #[.bool (decide (a0_0 < a1_0))] rfl (by (try simp only [List.map_toArray, List.map_cons, List.map_nil]); first | done | rfl | (simp only [List.length_drop, List.length_take]; rfl)) ?_; (with_reducible refine (rialtoref2_sign.calls (decide (a0_0 < a1_0)) t344 _ A24.out).mono ?_); rintro e w' ⟨rfl, ⟨nd, rfl⟩⟩; refine ⟨_, rfl, ?_⟩))
  go_ret
  exact ⟨by first | rfl | (simp [errW_none, errW_some] <;> rfl) | (simp [*, errW_none, errW_some] <;> rfl), by repeat (first | (with_reducible first | exact HB.out | apply below_alloc | apply pw_below_drewN | apply below_drew1 | refine below_set ?_ GE339.out | refine below_set ?_ GE340.out) | exact HB.out)⟩
end Go.Proofs.YtlpmfiamelahjaaGreatDoor.Px
namespace Go.Ex
noncomputable section
open Go.Proofs Go.RowKit Go.Maps Go.Sort Go.Shelf
theorem sorts181 (m : Nat) : AnyZI.SortsIn Tryz.prog Tryz.sorted181_ren Fence.wide m :=
  ⟨fun blk off cap ss W hH hblk hsz => callsIn_wide.2 (AnyM.slices_Sort_int Tryz.sort214 blk off cap ss W hH hblk hsz),
   fun p cap W => callsIn_wide.2 (AnyM.slices_Sort_int_none Tryz.sort214 p cap W)⟩
set_option maxHeartbeats 1000000 in
theorem sorted215 : SortedI Tryz.prog 181 215 2 2 where
  key := Tryz.underlying2
  enters := enters_of Tryz.func181 (by kernel_rfl) rfl
  gives := fun Bm b nn D0 w hBm hm hown hmax hbytes => by
    have hseq : SeqGives Fence.wide 2 Tryz.prog 215 #[.pointer (some ⟨Bm, 0, none⟩)] encZ (fun ss => ss.Perm (intKeys D0)) (Maps.size D0) w :=
      AnyZI.keys_gives (ρ := Tryz.keys182_ren) { Tryz.keys182 with } Fence.wide _ trivial rfl (by omega) Bm b nn D0 w hBm hm hown
    have cS := AnyZI.sorted_in Tryz.sorted181 Fence.wide 5 trivial trivial trivial trivial rfl (by omega) (sorts181 _) (enters_of Tryz.func214 (by kernel_rfl) rfl) 215 #[.pointer (some ⟨Bm, 0, none⟩)] trivial (enters_of Tryz.func215 (by kernel_rfl) rfl) _ _ hmax hbytes w hseq
    exact (callsIn_wide (n := 5)).1 cS
  givesNil := fun Bm w hBm hm => by
    have hseq : SeqGives Fence.wide 2 Tryz.prog 215 #[.pointer (some ⟨Bm, 0, none⟩)] encZ (fun ss : List Int => ss = []) 0 w :=
      AnyZI.keys_gives_nil (ρ := Tryz.keys182_ren) { Tryz.keys182 with } Fence.wide _ trivial rfl Bm w hBm hm
    have cS := AnyZI.sorted_in Tryz.sorted181 Fence.wide 5 trivial trivial trivial trivial rfl (by omega) (sorts181 _) (enters_of Tryz.func214 (by kernel_rfl) rfl) 215 #[.pointer (some ⟨Bm, 0, none⟩)] trivial (enters_of Tryz.func215 (by kernel_rfl) rfl) _ 0 (Nat.zero_le _) (by omega) w hseq
    refine ((callsIn_wide (n := 5)).1 cS).mono fun e w' ⟨v, ss, he, hs, _, hn, hb⟩ => ⟨by rw [he, hn.2 hs], hb⟩
theorem nat99 (args : Array Value) (w : World) : (callFunc 99 args).run Tryz.prog w = ((fun args => Extern.ReflectliteValue.unpack (args.getD 0 (.tuple #[]))) args >>= fun v => (Pure.pure (.value v) : Sem Next)).run Tryz.prog w := by kernel_rfl
theorem nat100 (args : Array Value) (w : World) : (callFunc 100 args).run Tryz.prog w = ((Extern.ReflectliteValue.methodAny (Extern.ReflectliteValue.valueError "reflectlite.Value.Type" 0) fun t _ _ _ => Extern.ReflectliteType.toType t) args >>= fun v => (Pure.pure (.value v) : Sem Next)).run Tryz.prog w := by kernel_rfl
theorem nat101 (args : Array Value) (w : World) : (callFunc 101 args).run Tryz.prog w = ((Extern.ReflectliteValue.method (Extern.ReflectliteValue.valueError "reflectlite.Value.IsNil" 0) Extern.ReflectliteValue.isNil) args >>= fun v => (Pure.pure (.value v) : Sem Next)).run Tryz.prog w := by kernel_rfl
theorem nat162 (args : Array Value) (w : World) : (callFunc 162 args).run Tryz.prog w = ((Extern.ReflectliteValue.method (Extern.ReflectliteValue.valueError "reflectlite.Value.Elem" 0) Extern.ReflectliteValue.elem) args >>= fun v => (Pure.pure (.value v) : Sem Next)).run Tryz.prog w := by kernel_rfl
theorem nat163 (args : Array Value) (w : World) : (callFunc 163 args).run Tryz.prog w = ((Extern.ReflectliteValue.set) args >>= fun v => (Pure.pure (.value v) : Sem Next)).run Tryz.prog w := by kernel_rfl
theorem nat161 (args : Array Value) (w : World) : (callFunc 161 args).run Tryz.prog w = ((Extern.ReflectliteType.typeOf) args >>= fun v => (Pure.pure (.value v) : Sem Next)).run Tryz.prog w := by kernel_rfl
theorem nat401 (args : Array Value) (w : World) : (callFunc 401 args).run Tryz.prog w = ((Extern.ReflectliteType.method Extern.ReflectliteType.elem) args >>= fun v => (Pure.pure (.value v) : Sem Next)).run Tryz.prog w := by kernel_rfl
theorem nat402 (args : Array Value) (w : World) : (callFunc 402 args).run Tryz.prog w = ((Extern.ReflectliteType.relation "Implements" Extern.ReflectliteType.implements_) args >>= fun v => (Pure.pure (.value v) : Sem Next)).run Tryz.prog w := by kernel_rfl
theorem nat399 (args : Array Value) (w : World) : (callFunc 399 args).run Tryz.prog w = ((Extern.ReflectliteType.relation "AssignableTo" Extern.ReflectliteType.assignableTo) args >>= fun v => (Pure.pure (.value v) : Sem Next)).run Tryz.prog w := by kernel_rfl
theorem nat377 (args : Array Value) (w : World) : (callFunc 377 args).run Tryz.prog w = ((Extern.ReflectliteType.abiMethod fun t => (fun a : Nat => Value.int IntKind.u8 (a : Int)) <$> Extern.Rtype.kind t) args >>= fun v => (Pure.pure (.value v) : Sem Next)).run Tryz.prog w := by kernel_rfl
theorem nat271 (args : Array Value) (w : World) : (callFunc 271 args).run Tryz.prog w = ((Extern.SlicesOverlaps.overlaps #[147, 147] #[4]) args >>= fun v => (Pure.pure (.value v) : Sem Next)).run Tryz.prog w := by kernel_rfl
theorem nat335 (args : Array Value) (w : World) : (callFunc 335 args).run Tryz.prog w = ((Extern.SlicesOverlaps.overlaps #[323, 323] #[4]) args >>= fun v => (Pure.pure (.value v) : Sem Next)).run Tryz.prog w := by kernel_rfl
theorem nat339 (args : Array Value) (w : World) : (callFunc 339 args).run Tryz.prog w = ((Extern.SlicesOverlaps.overlaps #[399, 399] #[4]) args >>= fun v => (Pure.pure (.value v) : Sem Next)).run Tryz.prog w := by kernel_rfl
theorem nat345 (args : Array Value) (w : World) : (callFunc 345 args).run Tryz.prog w = ((Extern.SlicesOverlaps.overlaps #[414, 414] #[4]) args >>= fun v => (Pure.pure (.value v) : Sem Next)).run Tryz.prog w := by kernel_rfl
def kindOf (f : FuncId) : Nat :=
  sel (Nat.beq f 99) 1 ( sel (Nat.beq f 100) 2 ( sel (Nat.beq f 101) 3 ( sel (Nat.beq f 161) 4 ( sel (Nat.beq f 162) 5 ( sel (Nat.beq f 163) 6 ( sel (Nat.beq f 181) 7 ( sel (Nat.beq f 271) 8 ( sel (Nat.beq f 335) 9 ( sel (Nat.beq f 339) 10 ( sel (Nat.beq f 345) 11 ( sel (Nat.beq f 377) 12 ( sel (Nat.beq f 399) 13 ( sel (Nat.beq f 401) 14 ( sel (Nat.beq f 402) 15 (0)))))))))))))))
def intrRun (G : Nat) (f : FuncId) (args : List Value) (h : T AO) (n : Nat) : Out :=
  match kindOf f with
  | 1 => nValueOf Tryz.prog G args h n
  | 2 => nType Tryz.prog G args h n
  | 3 => nIsNil Tryz.prog G args h n
  | 4 => nTypeOf Tryz.prog G args h n
  | 5 => nElemV Tryz.prog G args h n
  | 6 => nSet Tryz.prog G args h n
  | 7 => nSortedI 215 2 args h n
  | 8 => nOverlaps Tryz.prog 147 args h n
  | 9 => nOverlaps Tryz.prog 323 args h n
  | 10 => nOverlaps Tryz.prog 399 args h n
  | 11 => nOverlaps Tryz.prog 414 args h n
  | 12 => nKind Tryz.prog G args h n
  | 13 => nRel Tryz.prog G Extern.ReflectliteType.assignableTo args h n
  | 14 => nElemT Tryz.prog G args h n
  | 15 => nRel Tryz.prog G Extern.ReflectliteType.implements_ args h n
  | _ => none
theorem kindOf_spec (f : FuncId) : (kindOf f = 1 ∧ f = 99) ∨ (kindOf f = 2 ∧ f = 100) ∨ (kindOf f = 3 ∧ f = 101) ∨ (kindOf f = 4 ∧ f = 161) ∨ (kindOf f = 5 ∧ f = 162) ∨ (kindOf f = 6 ∧ f = 163) ∨ (kindOf f = 7 ∧ f = 181) ∨ (kindOf f = 8 ∧ f = 271) ∨ (kindOf f = 9 ∧ f = 335) ∨ (kindOf f = 10 ∧ f = 339) ∨ (kindOf f = 11 ∧ f = 345) ∨ (kindOf f = 12 ∧ f = 377) ∨ (kindOf f = 13 ∧ f = 399) ∨ (kindOf f = 14 ∧ f = 401) ∨ (kindOf f = 15 ∧ f = 402) ∨ kindOf f = 0 := by
  unfold kindOf
  by_cases h0 : f = 99
  · subst h0; decide
  rw [beq_false h0, sel_false]
  by_cases h1 : f = 100
  · subst h1; decide
  rw [beq_false h1, sel_false]
  by_cases h2 : f = 101
  · subst h2; decide
  rw [beq_false h2, sel_false]
  by_cases h3 : f = 161
  · subst h3; decide
  rw [beq_false h3, sel_false]
  by_cases h4 : f = 162
  · subst h4; decide
  rw [beq_false h4, sel_false]
  by_cases h5 : f = 163
  · subst h5; decide
  rw [beq_false h5, sel_false]
  by_cases h6 : f = 181
  · subst h6; decide
  rw [beq_false h6, sel_false]
  by_cases h7 : f = 271
  · subst h7; decide
  rw [beq_false h7, sel_false]
  by_cases h8 : f = 335
  · subst h8; decide
  rw [beq_false h8, sel_false]
  by_cases h9 : f = 339
  · subst h9; decide
  rw [beq_false h9, sel_false]
  by_cases h10 : f = 345
  · subst h10; decide
  rw [beq_false h10, sel_false]
  by_cases h11 : f = 377
  · subst h11; decide
  rw [beq_false h11, sel_false]
  by_cases h12 : f = 399
  · subst h12; decide
  rw [beq_false h12, sel_false]
  by_cases h13 : f = 401
  · subst h13; decide
  rw [beq_false h13, sel_false]
  by_cases h14 : f = 402
  · subst h14; decide
  rw [beq_false h14, sel_false]
  simp
theorem nat_sound {G : Nat} {f : FuncId} {run : List Value → T AO → Nat → Out} {s : Array Value → Sem Value} (hs : NatOk Tryz.prog G run s) (hf : ∀ args w, (callFunc f args).run Tryz.prog w = (s args >>= fun v => (Pure.pure (.value v) : Sem Next)).run Tryz.prog w)
    {args : List Value} {h : T AO} {n : Nat} {v : Value} {l : List (Nat × AO)} {n' : Nat} (hr : run args h n = some (v, l, n')) {B : Nat} {w0 : World} {m : Mp} {X : Nat → Option AO} {w : World} {args' : List Value} (hG : GR m G) (hh : HR B w0 m h X n w) (ha : VRs m args args') :
    ∃ v' w', (callFunc f ⟨args'⟩).run Tryz.prog w = .ok (.value v') w' ∧ Outs Tryz.prog B w0 X m h v l n' v' w' := by
  obtain ⟨v', w', h1, h2⟩ := hs hr hG hh ha
  exact ⟨v', w', by rw [hf, Sem.run_bind, h1]; rfl, h2⟩
theorem intrRun_sound {G : Nat} {f : FuncId} {args : List Value} {h : T AO} {n : Nat} {v : Value} {l : List (Nat × AO)} {n' : Nat} (hi : intrRun G f args h n = some (v, l, n'))
    {B : Nat} {w0 : World} {m : Mp} {X : Nat → Option AO} {w : World} {args' : List Value} (hG : GR m G) (hr : HR B w0 m h X n w) (ha : VRs m args args') :
    (∃ v' w', (callFunc f ⟨args'⟩).run Tryz.prog w = .ok (.value v') w' ∧ Outs Tryz.prog B w0 X m h v l n' v' w') ∨
    ((callFunc f ⟨args'⟩).run Tryz.prog w = .ok (.enter f ⟨args'⟩) w ∧ Calls Tryz.prog f ⟨args'⟩ w fun e w' => ∃ v', e = .returned v' ∧ Outs Tryz.prog B w0 X m h v l n' v' w') := by
  unfold intrRun at hi
  rcases kindOf_spec f with ⟨h, hf⟩ | ⟨h, hf⟩ | ⟨h, hf⟩ | ⟨h, hf⟩ | ⟨h, hf⟩ | ⟨h, hf⟩ | ⟨h, hf⟩ | ⟨h, hf⟩ | ⟨h, hf⟩ | ⟨h, hf⟩ | ⟨h, hf⟩ | ⟨h, hf⟩ | ⟨h, hf⟩ | ⟨h, hf⟩ | ⟨h, hf⟩ | h
  · rw [h] at hi
    subst hf
    exact .inl (nat_sound nValueOf_ok nat99 hi hG hr ha)
  · rw [h] at hi
    subst hf
    exact .inl (nat_sound (nType_ok _) nat100 hi hG hr ha)
  · rw [h] at hi
    subst hf
    exact .inl (nat_sound (nIsNil_ok _) nat101 hi hG hr ha)
  · rw [h] at hi
    subst hf
    exact .inl (nat_sound nTypeOf_ok nat161 hi hG hr ha)
  · rw [h] at hi
    subst hf
    exact .inl (nat_sound (nElemV_ok _) nat162 hi hG hr ha)
  · rw [h] at hi
    subst hf
    exact .inl (nat_sound nSet_ok nat163 hi hG hr ha)
  · rw [h] at hi
    subst hf
    exact .inr (nSortedI_ok sorted215 hi hr ha)
  · rw [h] at hi
    subst hf
    exact .inl (nat_sound (nOverlaps_ok (t := 147) rfl) nat271 hi hG hr ha)
  · rw [h] at hi
    subst hf
    exact .inl (nat_sound (nOverlaps_ok (t := 323) rfl) nat335 hi hG hr ha)
  · rw [h] at hi
    subst hf
    exact .inl (nat_sound (nOverlaps_ok (t := 399) rfl) nat339 hi hG hr ha)
  · rw [h] at hi
    subst hf
    exact .inl (nat_sound (nOverlaps_ok (t := 414) rfl) nat345 hi hG hr ha)
  · rw [h] at hi
    subst hf
    exact .inl (nat_sound nKind_ok nat377 hi hG hr ha)
  · rw [h] at hi
    subst hf
    exact .inl (nat_sound (nRel_ok "AssignableTo" _) nat399 hi hG hr ha)
  · rw [h] at hi
    subst hf
    exact .inl (nat_sound nElemT_ok nat401 hi hG hr ha)
  · rw [h] at hi
    subst hf
    exact .inl (nat_sound (nRel_ok "Implements" _) nat402 hi hG hr ha)
  · rw [h] at hi; cases hi
@[reducible] def baseIntr : Intr Tryz.prog where
  run := intrRun
  sound := fun hi => fun hG hr ha => intrRun_sound hi hG hr ha
theorem mixedOrders : Tryz.prog.follows .mixedOrders = true := by kernel_rfl
def isFk (f : FuncId) : Bool := Nat.beq f 230 || Nat.beq f 310 || Nat.beq f 313 || Nat.beq f 318 || Nat.beq f 338 || Nat.beq f 344
@[reducible] def intr1 : Intr Tryz.prog := forked Tryz.prog baseIntr mixedOrders 4000 isFk
theorem cmpBody : (bodyOf Tryz.prog 38).isSome = true := by kernel_rfl
theorem cmpIs : CmpC Tryz.prog 38 := @cmpC_of Tryz.prog baseIntr mixedOrders 38 1000 cmpBody (by kernel_rfl) (by kernel_rfl) (by kernel_rfl)
@[reducible] def intr2 : Intr Tryz.prog := withCmp Tryz.prog intr1 38 cmpIs
theorem known4Body : (bodyOf Tryz.prog 4).isSome = true := by kernel_rfl
theorem known4Is : KnownC Tryz.prog 4 0 257 3 46 := @knownC_of Tryz.prog intr2 mixedOrders 64 20000 4 0 257 3 46 known4Body (by omega) (by omega) (by kernel_rfl)
@[reducible] def intrK4 : Intr Tryz.prog := withKnown Tryz.prog intr2 4 0 257 3 46 known4Is
instance : Intr Tryz.prog := intrK4
end
end Go.Ex
namespace Go.Proofs.YtlpmfiamelahjaaGreatDoor.Mb
open Go.RowKit
def Hd (w : World) : Prop := ∃ e fz, w.heap[0]? = some (.cells #[Ex.hndl 257 3 46] e fz)
theorem Hd.mono {w w' : World} (h : Hd w) (hb : Below w.heap.size w w') : Hd w' := by
  obtain ⟨e, fz, h⟩ := h
  exact ⟨e, fz, (hb.block _ (Array.getElem?_eq_some_iff.1 h).1).trans h⟩
def knownF : Option Bool := some true
theorem knownF_calls (r : Bool) (w : World) (hT : Hd w) (h : knownF = some r) : Calls Tryz.prog 4 #[] w fun e w' => e = .returned (.bool r) ∧ Below w.heap.size w w' := by
  cases h
  obtain ⟨e, fz, h⟩ := hT
  exact Ex.known4Is.gives w e fz h
end Go.Proofs.YtlpmfiamelahjaaGreatDoor.Mb
namespace Go.Proofs.YtlpmfiamelahjaaGreatDoor.Px
noncomputable section
open Go.RowKit Go.Proofs.YtlpmfiamelahjaaGreatDoor.Gvn Go.Proofs.YtlpmfiamelahjaaGreatDoorW.PrintWords Go.Proofs.YtlpmfiamelahjaaGreatDoorW.PrintLast Go.Proofs.YtlpmfiamelahjaaGreatDoorW.PrintMore
attribute [local go_sem] run_store_float
set_option linter.unusedVariables false
set_option linter.unusedSimpArgs false
def rialtolaw21_known.f : Option (Bool) := Mb.knownF
theorem rialtolaw21_known.calls (r : Bool) (w : World) (hT : Mb.Hd w) (h : rialtolaw21_known.f = some r) :
  Calls Tryz.prog 4 #[] w fun e w' => e = .returned (.bool r) ∧ Below w.heap.size w w' := Mb.knownF_calls r w hT h
end
end Go.Proofs.YtlpmfiamelahjaaGreatDoor.Px
namespace Go.Proofs.YtlpmfiamelahjaaGreatDoor.Px
open Go.RowKit Go.Proofs.YtlpmfiamelahjaaGreatDoor.Gvn Go.Proofs.YtlpmfiamelahjaaGreatDoorW.PrintWords Go.Proofs.YtlpmfiamelahjaaGreatDoorW.PrintLast Go.Proofs.YtlpmfiamelahjaaGreatDoorW.PrintMore
attribute [local go_sem] run_store_float
set_option linter.unusedVariables false
set_option linter.unusedSimpArgs false
def cmp_Or_int.l0 : Nat → Int → List Int → Int → Int → Option (Int)
 | 0, _, _, _, _ => none
 | k + 1, x3, x6, x7, x8 => if x8 < x7 then (if 0 ≤ x8 then (if x8 < (x6.length : Int) then (if (rd x6 x8) = x3 then (cmp_Or_int.l0 k x3 x6 x7 (wrap64 (x8 + 1))) else (some (rd x6 x8))) else (none)) else (none)) else (some x3)
def cmp_Or_int.f (k : Nat) (l0 : List Int) : Option (Int) := cmp_Or_int.l0 k 0 l0 (l0.length : Int) 0
set_option maxHeartbeats 8000000 in
set_option maxRecDepth 100000 in
theorem cmp_Or_int.calls (k : Nat) (A0 : Option Addr) (c0 : Nat) (l0 : List Int) (r : Int) (w : World) (hr0 : Kd.C (Kd.int .i64) w A0 l0.length l0) (hc0 : l0.length ≤ c0) (h : cmp_Or_int.f k l0 = some r) :
  Calls Tryz.prog 36 #[.slice A0 l0.length c0] w fun e w' => e = .returned (.int .i64 r) ∧ Drawn0 w w' := by
 have HR0 := Aside0.mk hr0
 have HC0 := Aside0.mk hc0
 clear hr0 hc0
 have H : (cmp_Or_int.l0 k 0 l0 (l0.length : Int) 0) = some r := h
 clear h
 have H' := Aside0.mk H
 clear H
 have k113 := run113
 have k209 := run209
 go_enter Tryz.func36, Tryz.ntmps36
 go_wp2
 go_loopg [8] k (fun kq v8 w' => ∃ (x8_1 : Int), v8 = .int .i64 x8_1 ∧ Aside0 (cmp_Or_int.l0 kq 0 l0 (l0.length : Int) x8_1 = some r) ∧ Aside0 (kq ≤ k) ∧ Drawn0 w w')
 case atStart => exact ⟨(0), (by first | rfl | (simp; done) | (simp [*]; done)), H', ⟨Nat.le_refl _⟩, by repeat (first | exact Drawn0.refl _ | apply Drawn0.step)⟩
 case round =>
  clear H'
  obtain ⟨x8_1, rfl, HA, HK1, ⟨m1, rfl⟩⟩ := hrel
  cases gk with
  | zero => exact absurd HA.out (by simp [cmp_Or_int.l0])
  | succ k1 =>
   have H := HA.out
   clear HA
   simp only [cmp_Or_int.l0] at H
   by_cases c2 : x8_1 < (l0.length : Int)
   ·rw [if_pos c2] at H
    have c2b0 : decide (x8_1 < (l0.length : Int)) = true := decide_eq_true c2
    clear c2
    by_cases c3 : 0 ≤ x8_1
    ·rw [if_pos c3] at H
     have c3b0 : decide (0 ≤ x8_1) = true := decide_eq_true c3
     clear c3
     by_cases c4 : x8_1 < (l0.length : Int)
     ·rw [if_pos c4] at H
      have c4b0 : decide (x8_1 < (l0.length : Int)) = true := decide_eq_true c4
      clear c4
      by_cases c5 : (rd l0 x8_1) = 0
      ·rw [if_pos c5] at H
       have c5b0 : ((rd l0 x8_1) == 0) = true := beq_iff_eq.mpr c5
       have c5b1 : ((rd l0 x8_1) != 0) = false := bne_eq_false_iff_eq.mpr c5
       clear c5
       have H' := Aside0.mk H
       clear H
       have p112 : 0 ≤ (x8_1 : Int) := of_decide_eq_true (by first | (with_reducible assumption) | assumption)
       have q112 : x8_1 < (l0.length : Int) := of_decide_eq_true (by first | (with_reducible assumption) | assumption)
       obtain ⟨ad112, e112, hx112_0⟩ := Kd.at_int HR0.out x8_1 p112 q112
       cases e112
       replace p112 := eq_true p112
       replace q112 := eq_true q112
       go_wp2
       go_roundg k1
       case measure => have := HK1.out; omega
       case rel => exact ⟨(wrap64 (x8_1 + 1)), (by first | rfl | (simp; done) | (simp [*]; done)), H', ⟨by have := HK1.out; omega⟩, by repeat (first | exact Drawn0.refl _ | apply Drawn0.step)⟩
      ·rw [if_neg c5] at H
       have c5b0 : ((rd l0 x8_1) == 0) = false := beq_eq_false_iff_ne.mpr c5
       have c5b1 : ((rd l0 x8_1) != 0) = true := bne_iff_ne.mpr c5
       obtain rfl := Option.some.inj H
       have p112 : 0 ≤ (x8_1 : Int) := of_decide_eq_true (by first | (with_reducible assumption) | assumption)
       have q112 : x8_1 < (l0.length : Int) := of_decide_eq_true (by first | (with_reducible assumption) | assumption)
       obtain ⟨ad112, e112, hx112_0⟩ := Kd.at_int HR0.out x8_1 p112 q112
       cases e112
       replace p112 := eq_true p112
       replace q112 := eq_true q112
       go_wp2
       go_ret
       exact ⟨by first | rfl | (simp; done) | (simp [*]; done), by repeat (first | exact Drawn0.refl _ | apply Drawn0.step)⟩
     ·rw [if_neg c4] at H
      exact absurd H (by simp)
    ·rw [if_neg c3] at H
     exact absurd H (by simp)
   ·rw [if_neg c2] at H
    have c2b0 : decide (x8_1 < (l0.length : Int)) = false := decide_eq_false c2
    clear c2
    obtain rfl := Option.some.inj H
    go_wp2
    go_ret
    exact ⟨by first | rfl | (simp; done) | (simp [*]; done), by repeat (first | exact Drawn0.refl _ | apply Drawn0.step)⟩
def cmp_isNaN_int.f (a0 : Int) : Option (Bool) := some (a0 != a0)
set_option maxHeartbeats 8000000 in
set_option maxRecDepth 100000 in
theorem cmp_isNaN_int.calls (a0 : Int) (r : Bool) (w : World) (h : cmp_isNaN_int.f a0 = some r) :
  Calls Tryz.prog 108 #[.int .i64 a0] w fun e w' => e = .returned (.bool r) ∧ Drawn0 w w' := by
 have H : (some (a0 != a0)) = some r := h
 clear h
 obtain rfl := Option.some.inj H
 have k113 := run113
 have k209 := run209
 go_enter Tryz.func108, Tryz.ntmps108
 go_wp2
 go_ret
 exact ⟨by first | rfl | (simp; done) | (simp [*]; done), by repeat (first | exact Drawn0.refl _ | apply Drawn0.step)⟩
def cmp_Compare_int.f (a0 : Int) (a1 : Int) : Option (Int) := (cmp_isNaN_int.f a0).bind fun t113 => ((cmp_isNaN_int.f a1).bind fun t114 => (if t113 = true then (if t114 = true then (some 0) else (some (-1))) else (if t114 = true then (some 1) else (if a0 < a1 then (some (-1)) else (if a0 > a1 then (some 1) else (some 0))))))
set_option maxHeartbeats 8000000 in
set_option maxRecDepth 100000 in
theorem cmp_Compare_int.calls (a0 : Int) (a1 : Int) (r : Int) (w : World) (h : cmp_Compare_int.f a0 a1 = some r) :
  Calls Tryz.prog 37 #[.int .i64 a0, .int .i64 a1] w fun e w' => e = .returned (.int .i64 r) ∧ Drawn0 w w' := by
 have H : ((cmp_isNaN_int.f a0).bind fun t113 => ((cmp_isNaN_int.f a1).bind fun t114 => (if t113 = true then (if t114 = true then (some 0) else (some (-1))) else (if t114 = true then (some 1) else (if a0 < a1 then (some (-1)) else (if a0 > a1 then (some 1) else (some 0))))))) = some r := h
 clear h
 replace H := Option.bind_eq_some_iff.mp H
 obtain ⟨t113, A30, H⟩ := H
 replace H : ((cmp_isNaN_int.f a1).bind fun t114 => (if t113 = true then (if t114 = true then (some 0) else (some (-1))) else (if t114 = true then (some 1) else (if a0 < a1 then (some (-1)) else (if a0 > a1 then (some 1) else (some 0)))))) = some r := H
 have A3 := Aside0.mk A30
 clear A30
 replace H := Option.bind_eq_some_iff.mp H
 obtain ⟨t114, A40, H⟩ := H
 replace H : (if t113 = true then (if t114 = true then (some 0) else (some (-1))) else (if t114 = true then (some 1) else (if a0 < a1 then (some (-1)) else (if a0 > a1 then (some 1) else (some 0))))) = some r := H
 have A4 := Aside0.mk A40
 clear A40
 by_cases c5 : t113 = true
 ·subst c5
  have H1 : (if t114 = true then (some 0) else (some (-1))) = some r := by rw [if_pos rfl] at H; exact H
  clear H
  have H := H1
  clear H1
  by_cases c6 : t114 = true
  ·subst c6
   have H1 : (some 0) = some r := by rw [if_pos rfl] at H; exact H
   clear H
   have H := H1
   clear H1
   obtain rfl := Option.some.inj H
   have k113 := run113
   have k209 := run209
   go_enter Tryz.func37, Tryz.ntmps37
   go_wp2_with (first | ((with_reducible refine gate_callee (f := 108) rfl ?_); refine goesL_ (some 8) rfl rfl Tryz.func108 (by kernel_rfl) rfl #[.int .i64 a0] rfl (by (try simp only [List.map_toArray, List.map_cons, List.map_nil]); first | done | rfl | (simp only [List.length_drop, List.length_take]; rfl)) ?_; (with_reducible refine (cmp_isNaN_int.calls a0 true _ A3.out).mono ?_); rintro e w' ⟨rfl, ⟨nd, rfl⟩⟩; refine ⟨_, rfl, ?_⟩) | ((with_reducible refine gate_callee (f := 108) rfl ?_); refine goesL_ (some 10) rfl rfl Tryz.func108 (by kernel_rfl) rfl #[.int .i64 a1] rfl (by (try simp only [List.map_toArray, List.map_cons, List.map_nil]); first | done | rfl | (simp only [List.length_drop, List.length_take]; rfl)) ?_; (with_reducible refine (cmp_isNaN_int.calls a1 true _ A4.out).mono ?_); rintro e w' ⟨rfl, ⟨nd, rfl⟩⟩; refine ⟨_, rfl, ?_⟩))
   go_ret
   exact ⟨by first | rfl | (simp; done) | (simp [*]; done), by repeat (first | exact Drawn0.refl _ | apply Drawn0.step)⟩
  ·replace c6 := Bool.eq_false_iff.mpr c6
   subst c6
   have H1 : (some (-1)) = some r := by rw [if_neg (show ¬ (false = true) by decide)] at H; exact H
   clear H
   have H := H1
   clear H1
   obtain rfl := Option.some.inj H
   have k113 := run113
   have k209 := run209
   go_enter Tryz.func37, Tryz.ntmps37
   go_wp2_with (first | ((with_reducible refine gate_callee (f := 108) rfl ?_); refine goesL_ (some 8) rfl rfl Tryz.func108 (by kernel_rfl) rfl #[.int .i64 a0] rfl (by (try simp only [List.map_toArray, List.map_cons, List.map_nil]); first | done | rfl | (simp only [List.length_drop, List.length_take]; rfl)) ?_; (with_reducible refine (cmp_isNaN_int.calls a0 true _ A3.out).mono ?_); rintro e w' ⟨rfl, ⟨nd, rfl⟩⟩; refine ⟨_, rfl, ?_⟩) | ((with_reducible refine gate_callee (f := 108) rfl ?_); refine goesL_ (some 10) rfl rfl Tryz.func108 (by kernel_rfl) rfl #[.int .i64 a1] rfl (by (try simp only [List.map_toArray, List.map_cons, List.map_nil]); first | done | rfl | (simp only [List.length_drop, List.length_take]; rfl)) ?_; (with_reducible refine (cmp_isNaN_int.calls a1 false _ A4.out).mono ?_); rintro e w' ⟨rfl, ⟨nd, rfl⟩⟩; refine ⟨_, rfl, ?_⟩))
   go_ret
   exact ⟨by first | rfl | (simp; done) | (simp [*]; done), by repeat (first | exact Drawn0.refl _ | apply Drawn0.step)⟩
 ·replace c5 := Bool.eq_false_iff.mpr c5
  subst c5
  have H1 : (if t114 = true then (some 1) else (if a0 < a1 then (some (-1)) else (if a0 > a1 then (some 1) else (some 0)))) = some r := by rw [if_neg (show ¬ (false = true) by decide)] at H; exact H
  clear H
  have H := H1
  clear H1
  by_cases c7 : t114 = true
  ·subst c7
   have H1 : (some 1) = some r := by rw [if_pos rfl] at H; exact H
   clear H
   have H := H1
   clear H1
   obtain rfl := Option.some.inj H
   have k113 := run113
   have k209 := run209
   go_enter Tryz.func37, Tryz.ntmps37
   go_wp2_with (first | ((with_reducible refine gate_callee (f := 108) rfl ?_); refine goesL_ (some 8) rfl rfl Tryz.func108 (by kernel_rfl) rfl #[.int .i64 a0] rfl (by (try simp only [List.map_toArray, List.map_cons, List.map_nil]); first | done | rfl | (simp only [List.length_drop, List.length_take]; rfl)) ?_; (with_reducible refine (cmp_isNaN_int.calls a0 false _ A3.out).mono ?_); rintro e w' ⟨rfl, ⟨nd, rfl⟩⟩; refine ⟨_, rfl, ?_⟩) | ((with_reducible refine gate_callee (f := 108) rfl ?_); refine goesL_ (some 10) rfl rfl Tryz.func108 (by kernel_rfl) rfl #[.int .i64 a1] rfl (by (try simp only [List.map_toArray, List.map_cons, List.map_nil]); first | done | rfl | (simp only [List.length_drop, List.length_take]; rfl)) ?_; (with_reducible refine (cmp_isNaN_int.calls a1 true _ A4.out).mono ?_); rintro e w' ⟨rfl, ⟨nd, rfl⟩⟩; refine ⟨_, rfl, ?_⟩))
   go_ret
   exact ⟨by first | rfl | (simp; done) | (simp [*]; done), by repeat (first | exact Drawn0.refl _ | apply Drawn0.step)⟩
  ·replace c7 := Bool.eq_false_iff.mpr c7
   subst c7
   have H1 : (if a0 < a1 then (some (-1)) else (if a0 > a1 then (some 1) else (some 0))) = some r := by rw [if_neg (show ¬ (false = true) by decide)] at H; exact H
   clear H
   have H := H1
   clear H1
   by_cases c8 : a0 < a1
   ·rw [if_pos c8] at H
    have c8b0 : decide (a0 < a1) = true := decide_eq_true c8
    clear c8
    obtain rfl := Option.some.inj H
    have k113 := run113
    have k209 := run209
    go_enter Tryz.func37, Tryz.ntmps37
    go_wp2_with (first | ((with_reducible refine gate_callee (f := 108) rfl ?_); refine goesL_ (some 8) rfl rfl Tryz.func108 (by kernel_rfl) rfl #[.int .i64 a0] rfl (by (try simp only [List.map_toArray, List.map_cons, List.map_nil]); first | done | rfl | (simp only [List.length_drop, List.length_take]; rfl)) ?_; (with_reducible refine (cmp_isNaN_int.calls a0 false _ A3.out).mono ?_); rintro e w' ⟨rfl, ⟨nd, rfl⟩⟩; refine ⟨_, rfl, ?_⟩) | ((with_reducible refine gate_callee (f := 108) rfl ?_); refine goesL_ (some 10) rfl rfl Tryz.func108 (by kernel_rfl) rfl #[.int .i64 a1] rfl (by (try simp only [List.map_toArray, List.map_cons, List.map_nil]); first | done | rfl | (simp only [List.length_drop, List.length_take]; rfl)) ?_; (with_reducible refine (cmp_isNaN_int.calls a1 false _ A4.out).mono ?_); rintro e w' ⟨rfl, ⟨nd, rfl⟩⟩; refine ⟨_, rfl, ?_⟩))
    go_ret
    exact ⟨by first | rfl | (simp; done) | (simp [*]; done), by repeat (first | exact Drawn0.refl _ | apply Drawn0.step)⟩
   ·rw [if_neg c8] at H
    have c8b0 : decide (a0 < a1) = false := decide_eq_false c8
    clear c8
    by_cases c9 : a0 > a1
    ·rw [if_pos c9] at H
     have c9b0 : decide (a1 < a0) = true := decide_eq_true c9
     clear c9
     obtain rfl := Option.some.inj H
     have k113 := run113
     have k209 := run209
     go_enter Tryz.func37, Tryz.ntmps37
     go_wp2_with (first | ((with_reducible refine gate_callee (f := 108) rfl ?_); refine goesL_ (some 8) rfl rfl Tryz.func108 (by kernel_rfl) rfl #[.int .i64 a0] rfl (by (try simp only [List.map_toArray, List.map_cons, List.map_nil]); first | done | rfl | (simp only [List.length_drop, List.length_take]; rfl)) ?_; (with_reducible refine (cmp_isNaN_int.calls a0 false _ A3.out).mono ?_); rintro e w' ⟨rfl, ⟨nd, rfl⟩⟩; refine ⟨_, rfl, ?_⟩) | ((with_reducible refine gate_callee (f := 108) rfl ?_); refine goesL_ (some 10) rfl rfl Tryz.func108 (by kernel_rfl) rfl #[.int .i64 a1] rfl (by (try simp only [List.map_toArray, List.map_cons, List.map_nil]); first | done | rfl | (simp only [List.length_drop, List.length_take]; rfl)) ?_; (with_reducible refine (cmp_isNaN_int.calls a1 false _ A4.out).mono ?_); rintro e w' ⟨rfl, ⟨nd, rfl⟩⟩; refine ⟨_, rfl, ?_⟩))
     go_ret
     exact ⟨by first | rfl | (simp; done) | (simp [*]; done), by repeat (first | exact Drawn0.refl _ | apply Drawn0.step)⟩
    ·rw [if_neg c9] at H
     have c9b0 : decide (a1 < a0) = false := decide_eq_false c9
     clear c9
     obtain rfl := Option.some.inj H
     have k113 := run113
     have k209 := run209
     go_enter Tryz.func37, Tryz.ntmps37
     go_wp2_with (first | ((with_reducible refine gate_callee (f := 108) rfl ?_); refine goesL_ (some 8) rfl rfl Tryz.func108 (by kernel_rfl) rfl #[.int .i64 a0] rfl (by (try simp only [List.map_toArray, List.map_cons, List.map_nil]); first | done | rfl | (simp only [List.length_drop, List.length_take]; rfl)) ?_; (with_reducible refine (cmp_isNaN_int.calls a0 false _ A3.out).mono ?_); rintro e w' ⟨rfl, ⟨nd, rfl⟩⟩; refine ⟨_, rfl, ?_⟩) | ((with_reducible refine gate_callee (f := 108) rfl ?_); refine goesL_ (some 10) rfl rfl Tryz.func108 (by kernel_rfl) rfl #[.int .i64 a1] rfl (by (try simp only [List.map_toArray, List.map_cons, List.map_nil]); first | done | rfl | (simp only [List.length_drop, List.length_take]; rfl)) ?_; (with_reducible refine (cmp_isNaN_int.calls a1 false _ A4.out).mono ?_); rintro e w' ⟨rfl, ⟨nd, rfl⟩⟩; refine ⟨_, rfl, ?_⟩))
     go_ret
     exact ⟨by first | rfl | (simp; done) | (simp [*]; done), by repeat (first | exact Drawn0.refl _ | apply Drawn0.step)⟩
def cmp_isNaN_int64.f (a0 : Int) : Option (Bool) := some (a0 != a0)
set_option maxHeartbeats 8000000 in
set_option maxRecDepth 100000 in
theorem cmp_isNaN_int64.calls (a0 : Int) (r : Bool) (w : World) (h : cmp_isNaN_int64.f a0 = some r) :
  Calls Tryz.prog 109 #[.int .i64 a0] w fun e w' => e = .returned (.bool r) ∧ Drawn0 w w' := by
 have H : (some (a0 != a0)) = some r := h
 clear h
 obtain rfl := Option.some.inj H
 have k113 := run113
 have k209 := run209
 go_enter Tryz.func109, Tryz.ntmps109
 go_wp2
 go_ret
 exact ⟨by first | rfl | (simp; done) | (simp [*]; done), by repeat (first | exact Drawn0.refl _ | apply Drawn0.step)⟩
def cmp_Compare_int64.f (a0 : Int) (a1 : Int) : Option (Int) := (cmp_isNaN_int64.f a0).bind fun t115 => ((cmp_isNaN_int64.f a1).bind fun t116 => (if t115 = true then (if t116 = true then (some 0) else (some (-1))) else (if t116 = true then (some 1) else (if a0 < a1 then (some (-1)) else (if a0 > a1 then (some 1) else (some 0))))))
set_option maxHeartbeats 8000000 in
set_option maxRecDepth 100000 in
theorem cmp_Compare_int64.calls (a0 : Int) (a1 : Int) (r : Int) (w : World) (h : cmp_Compare_int64.f a0 a1 = some r) :
  Calls Tryz.prog 38 #[.int .i64 a0, .int .i64 a1] w fun e w' => e = .returned (.int .i64 r) ∧ Drawn0 w w' := by
 have H : ((cmp_isNaN_int64.f a0).bind fun t115 => ((cmp_isNaN_int64.f a1).bind fun t116 => (if t115 = true then (if t116 = true then (some 0) else (some (-1))) else (if t116 = true then (some 1) else (if a0 < a1 then (some (-1)) else (if a0 > a1 then (some 1) else (some 0))))))) = some r := h
 clear h
 replace H := Option.bind_eq_some_iff.mp H
 obtain ⟨t115, A30, H⟩ := H
 replace H : ((cmp_isNaN_int64.f a1).bind fun t116 => (if t115 = true then (if t116 = true then (some 0) else (some (-1))) else (if t116 = true then (some 1) else (if a0 < a1 then (some (-1)) else (if a0 > a1 then (some 1) else (some 0)))))) = some r := H
 have A3 := Aside0.mk A30
 clear A30
 replace H := Option.bind_eq_some_iff.mp H
 obtain ⟨t116, A40, H⟩ := H
 replace H : (if t115 = true then (if t116 = true then (some 0) else (some (-1))) else (if t116 = true then (some 1) else (if a0 < a1 then (some (-1)) else (if a0 > a1 then (some 1) else (some 0))))) = some r := H
 have A4 := Aside0.mk A40
 clear A40
 by_cases c5 : t115 = true
 ·subst c5
  have H1 : (if t116 = true then (some 0) else (some (-1))) = some r := by rw [if_pos rfl] at H; exact H
  clear H
  have H := H1
  clear H1
  by_cases c6 : t116 = true
  ·subst c6
   have H1 : (some 0) = some r := by rw [if_pos rfl] at H; exact H
   clear H
   have H := H1
   clear H1
   obtain rfl := Option.some.inj H
   have k113 := run113
   have k209 := run209
   go_enter Tryz.func38, Tryz.ntmps38
   go_wp2_with (first | ((with_reducible refine gate_callee (f := 109) rfl ?_); refine goesL_ (some 8) rfl rfl Tryz.func109 (by kernel_rfl) rfl #[.int .i64 a0] rfl (by (try simp only [List.map_toArray, List.map_cons, List.map_nil]); first | done | rfl | (simp only [List.length_drop, List.length_take]; rfl)) ?_; (with_reducible refine (cmp_isNaN_int64.calls a0 true _ A3.out).mono ?_); rintro e w' ⟨rfl, ⟨nd, rfl⟩⟩; refine ⟨_, rfl, ?_⟩) | ((with_reducible refine gate_callee (f := 109) rfl ?_); refine goesL_ (some 10) rfl rfl Tryz.func109 (by kernel_rfl) rfl #[.int .i64 a1] rfl (by (try simp only [List.map_toArray, List.map_cons, List.map_nil]); first | done | rfl | (simp only [List.length_drop, List.length_take]; rfl)) ?_; (with_reducible refine (cmp_isNaN_int64.calls a1 true _ A4.out).mono ?_); rintro e w' ⟨rfl, ⟨nd, rfl⟩⟩; refine ⟨_, rfl, ?_⟩))
   go_ret
   exact ⟨by first | rfl | (simp; done) | (simp [*]; done), by repeat (first | exact Drawn0.refl _ | apply Drawn0.step)⟩
  ·replace c6 := Bool.eq_false_iff.mpr c6
   subst c6
   have H1 : (some (-1)) = some r := by rw [if_neg (show ¬ (false = true) by decide)] at H; exact H
   clear H
   have H := H1
   clear H1
   obtain rfl := Option.some.inj H
   have k113 := run113
   have k209 := run209
   go_enter Tryz.func38, Tryz.ntmps38
   go_wp2_with (first | ((with_reducible refine gate_callee (f := 109) rfl ?_); refine goesL_ (some 8) rfl rfl Tryz.func109 (by kernel_rfl) rfl #[.int .i64 a0] rfl (by (try simp only [List.map_toArray, List.map_cons, List.map_nil]); first | done | rfl | (simp only [List.length_drop, List.length_take]; rfl)) ?_; (with_reducible refine (cmp_isNaN_int64.calls a0 true _ A3.out).mono ?_); rintro e w' ⟨rfl, ⟨nd, rfl⟩⟩; refine ⟨_, rfl, ?_⟩) | ((with_reducible refine gate_callee (f := 109) rfl ?_); refine goesL_ (some 10) rfl rfl Tryz.func109 (by kernel_rfl) rfl #[.int .i64 a1] rfl (by (try simp only [List.map_toArray, List.map_cons, List.map_nil]); first | done | rfl | (simp only [List.length_drop, List.length_take]; rfl)) ?_; (with_reducible refine (cmp_isNaN_int64.calls a1 false _ A4.out).mono ?_); rintro e w' ⟨rfl, ⟨nd, rfl⟩⟩; refine ⟨_, rfl, ?_⟩))
   go_ret
   exact ⟨by first | rfl | (simp; done) | (simp [*]; done), by repeat (first | exact Drawn0.refl _ | apply Drawn0.step)⟩
 ·replace c5 := Bool.eq_false_iff.mpr c5
  subst c5
  have H1 : (if t116 = true then (some 1) else (if a0 < a1 then (some (-1)) else (if a0 > a1 then (some 1) else (some 0)))) = some r := by rw [if_neg (show ¬ (false = true) by decide)] at H; exact H
  clear H
  have H := H1
  clear H1
  by_cases c7 : t116 = true
  ·subst c7
   have H1 : (some 1) = some r := by rw [if_pos rfl] at H; exact H
   clear H
   have H := H1
   clear H1
   obtain rfl := Option.some.inj H
   have k113 := run113
   have k209 := run209
   go_enter Tryz.func38, Tryz.ntmps38
   go_wp2_with (first | ((with_reducible refine gate_callee (f := 109) rfl ?_); refine goesL_ (some 8) rfl rfl Tryz.func109 (by kernel_rfl) rfl #[.int .i64 a0] rfl (by (try simp only [List.map_toArray, List.map_cons, List.map_nil]); first | done | rfl | (simp only [List.length_drop, List.length_take]; rfl)) ?_; (with_reducible refine (cmp_isNaN_int64.calls a0 false _ A3.out).mono ?_); rintro e w' ⟨rfl, ⟨nd, rfl⟩⟩; refine ⟨_, rfl, ?_⟩) | ((with_reducible refine gate_callee (f := 109) rfl ?_); refine goesL_ (some 10) rfl rfl Tryz.func109 (by kernel_rfl) rfl #[.int .i64 a1] rfl (by (try simp only [List.map_toArray, List.map_cons, List.map_nil]); first | done | rfl | (simp only [List.length_drop, List.length_take]; rfl)) ?_; (with_reducible refine (cmp_isNaN_int64.calls a1 true _ A4.out).mono ?_); rintro e w' ⟨rfl, ⟨nd, rfl⟩⟩; refine ⟨_, rfl, ?_⟩))
   go_ret
   exact ⟨by first | rfl | (simp; done) | (simp [*]; done), by repeat (first | exact Drawn0.refl _ | apply Drawn0.step)⟩
  ·replace c7 := Bool.eq_false_iff.mpr c7
   subst c7
   have H1 : (if a0 < a1 then (some (-1)) else (if a0 > a1 then (some 1) else (some 0))) = some r := by rw [if_neg (show ¬ (false = true) by decide)] at H; exact H
   clear H
   have H := H1
   clear H1
   by_cases c8 : a0 < a1
   ·rw [if_pos c8] at H
    have c8b0 : decide (a0 < a1) = true := decide_eq_true c8
    clear c8
    obtain rfl := Option.some.inj H
    have k113 := run113
    have k209 := run209
    go_enter Tryz.func38, Tryz.ntmps38
    go_wp2_with (first | ((with_reducible refine gate_callee (f := 109) rfl ?_); refine goesL_ (some 8) rfl rfl Tryz.func109 (by kernel_rfl) rfl #[.int .i64 a0] rfl (by (try simp only [List.map_toArray, List.map_cons, List.map_nil]); first | done | rfl | (simp only [List.length_drop, List.length_take]; rfl)) ?_; (with_reducible refine (cmp_isNaN_int64.calls a0 false _ A3.out).mono ?_); rintro e w' ⟨rfl, ⟨nd, rfl⟩⟩; refine ⟨_, rfl, ?_⟩) | ((with_reducible refine gate_callee (f := 109) rfl ?_); refine goesL_ (some 10) rfl rfl Tryz.func109 (by kernel_rfl) rfl #[.int .i64 a1] rfl (by (try simp only [List.map_toArray, List.map_cons, List.map_nil]); first | done | rfl | (simp only [List.length_drop, List.length_take]; rfl)) ?_; (with_reducible refine (cmp_isNaN_int64.calls a1 false _ A4.out).mono ?_); rintro e w' ⟨rfl, ⟨nd, rfl⟩⟩; refine ⟨_, rfl, ?_⟩))
    go_ret
    exact ⟨by first | rfl | (simp; done) | (simp [*]; done), by repeat (first | exact Drawn0.refl _ | apply Drawn0.step)⟩
   ·rw [if_neg c8] at H
    have c8b0 : decide (a0 < a1) = false := decide_eq_false c8
    clear c8
    by_cases c9 : a0 > a1
    ·rw [if_pos c9] at H
     have c9b0 : decide (a1 < a0) = true := decide_eq_true c9
     clear c9
     obtain rfl := Option.some.inj H
     have k113 := run113
     have k209 := run209
     go_enter Tryz.func38, Tryz.ntmps38
     go_wp2_with (first | ((with_reducible refine gate_callee (f := 109) rfl ?_); refine goesL_ (some 8) rfl rfl Tryz.func109 (by kernel_rfl) rfl #[.int .i64 a0] rfl (by (try simp only [List.map_toArray, List.map_cons, List.map_nil]); first | done | rfl | (simp only [List.length_drop, List.length_take]; rfl)) ?_; (with_reducible refine (cmp_isNaN_int64.calls a0 false _ A3.out).mono ?_); rintro e w' ⟨rfl, ⟨nd, rfl⟩⟩; refine ⟨_, rfl, ?_⟩) | ((with_reducible refine gate_callee (f := 109) rfl ?_); refine goesL_ (some 10) rfl rfl Tryz.func109 (by kernel_rfl) rfl #[.int .i64 a1] rfl (by (try simp only [List.map_toArray, List.map_cons, List.map_nil]); first | done | rfl | (simp only [List.length_drop, List.length_take]; rfl)) ?_; (with_reducible refine (cmp_isNaN_int64.calls a1 false _ A4.out).mono ?_); rintro e w' ⟨rfl, ⟨nd, rfl⟩⟩; refine ⟨_, rfl, ?_⟩))
     go_ret
     exact ⟨by first | rfl | (simp; done) | (simp [*]; done), by repeat (first | exact Drawn0.refl _ | apply Drawn0.step)⟩
    ·rw [if_neg c9] at H
     have c9b0 : decide (a1 < a0) = false := decide_eq_false c9
     clear c9
     obtain rfl := Option.some.inj H
     have k113 := run113
     have k209 := run209
     go_enter Tryz.func38, Tryz.ntmps38
     go_wp2_with (first | ((with_reducible refine gate_callee (f := 109) rfl ?_); refine goesL_ (some 8) rfl rfl Tryz.func109 (by kernel_rfl) rfl #[.int .i64 a0] rfl (by (try simp only [List.map_toArray, List.map_cons, List.map_nil]); first | done | rfl | (simp only [List.length_drop, List.length_take]; rfl)) ?_; (with_reducible refine (cmp_isNaN_int64.calls a0 false _ A3.out).mono ?_); rintro e w' ⟨rfl, ⟨nd, rfl⟩⟩; refine ⟨_, rfl, ?_⟩) | ((with_reducible refine gate_callee (f := 109) rfl ?_); refine goesL_ (some 10) rfl rfl Tryz.func109 (by kernel_rfl) rfl #[.int .i64 a1] rfl (by (try simp only [List.map_toArray, List.map_cons, List.map_nil]); first | done | rfl | (simp only [List.length_drop, List.length_take]; rfl)) ?_; (with_reducible refine (cmp_isNaN_int64.calls a1 false _ A4.out).mono ?_); rintro e w' ⟨rfl, ⟨nd, rfl⟩⟩; refine ⟨_, rfl, ?_⟩))
     go_ret
     exact ⟨by first | rfl | (simp; done) | (simp [*]; done), by repeat (first | exact Drawn0.refl _ | apply Drawn0.step)⟩
def cmp_isNaN_uint64.f (a0 : Int) : Option (Bool) := some (a0 != a0)
set_option maxHeartbeats 8000000 in
set_option maxRecDepth 100000 in
theorem cmp_isNaN_uint64.calls (a0 : Int) (r : Bool) (w : World) (h : cmp_isNaN_uint64.f a0 = some r) :
  Calls Tryz.prog 166 #[.int .u64 a0] w fun e w' => e = .returned (.bool r) ∧ Drawn0 w w' := by
 have H : (some (a0 != a0)) = some r := h
 clear h
 obtain rfl := Option.some.inj H
 have k113 := run113
 have k209 := run209
 go_enter Tryz.func166, Tryz.ntmps166
 go_wp2
 go_ret
 exact ⟨by first | rfl | (simp; done) | (simp [*]; done), by repeat (first | exact Drawn0.refl _ | apply Drawn0.step)⟩
def cmp_Compare_uint64.f (a0 : Int) (a1 : Int) : Option (Int) := (cmp_isNaN_uint64.f a0).bind fun t117 => ((cmp_isNaN_uint64.f a1).bind fun t118 => (if t117 = true then (if t118 = true then (some 0) else (some (-1))) else (if t118 = true then (some 1) else (if a0 < a1 then (some (-1)) else (if a0 > a1 then (some 1) else (some 0))))))
set_option maxHeartbeats 8000000 in
set_option maxRecDepth 100000 in
theorem cmp_Compare_uint64.calls (a0 : Int) (a1 : Int) (r : Int) (w : World) (h : cmp_Compare_uint64.f a0 a1 = some r) :
  Calls Tryz.prog 111 #[.int .u64 a0, .int .u64 a1] w fun e w' => e = .returned (.int .i64 r) ∧ Drawn0 w w' := by
 have H : ((cmp_isNaN_uint64.f a0).bind fun t117 => ((cmp_isNaN_uint64.f a1).bind fun t118 => (if t117 = true then (if t118 = true then (some 0) else (some (-1))) else (if t118 = true then (some 1) else (if a0 < a1 then (some (-1)) else (if a0 > a1 then (some 1) else (some 0))))))) = some r := h
 clear h
 replace H := Option.bind_eq_some_iff.mp H
 obtain ⟨t117, A30, H⟩ := H
 replace H : ((cmp_isNaN_uint64.f a1).bind fun t118 => (if t117 = true then (if t118 = true then (some 0) else (some (-1))) else (if t118 = true then (some 1) else (if a0 < a1 then (some (-1)) else (if a0 > a1 then (some 1) else (some 0)))))) = some r := H
 have A3 := Aside0.mk A30
 clear A30
 replace H := Option.bind_eq_some_iff.mp H
 obtain ⟨t118, A40, H⟩ := H
 replace H : (if t117 = true then (if t118 = true then (some 0) else (some (-1))) else (if t118 = true then (some 1) else (if a0 < a1 then (some (-1)) else (if a0 > a1 then (some 1) else (some 0))))) = some r := H
 have A4 := Aside0.mk A40
 clear A40
 by_cases c5 : t117 = true
 ·subst c5
  have H1 : (if t118 = true then (some 0) else (some (-1))) = some r := by rw [if_pos rfl] at H; exact H
  clear H
  have H := H1
  clear H1
  by_cases c6 : t118 = true
  ·subst c6
   have H1 : (some 0) = some r := by rw [if_pos rfl] at H; exact H
   clear H
   have H := H1
   clear H1
   obtain rfl := Option.some.inj H
   have k113 := run113
   have k209 := run209
   go_enter Tryz.func111, Tryz.ntmps111
   go_wp2_with (first | ((with_reducible refine gate_callee (f := 166) rfl ?_); refine goesL_ (some 8) rfl rfl Tryz.func166 (by kernel_rfl) rfl #[.int .u64 a0] rfl (by (try simp only [List.map_toArray, List.map_cons, List.map_nil]); first | done | rfl | (simp only [List.length_drop, List.length_take]; rfl)) ?_; (with_reducible refine (cmp_isNaN_uint64.calls a0 true _ A3.out).mono ?_); rintro e w' ⟨rfl, ⟨nd, rfl⟩⟩; refine ⟨_, rfl, ?_⟩) | ((with_reducible refine gate_callee (f := 166) rfl ?_); refine goesL_ (some 10) rfl rfl Tryz.func166 (by kernel_rfl) rfl #[.int .u64 a1] rfl (by (try simp only [List.map_toArray, List.map_cons, List.map_nil]); first | done | rfl | (simp only [List.length_drop, List.length_take]; rfl)) ?_; (with_reducible refine (cmp_isNaN_uint64.calls a1 true _ A4.out).mono ?_); rintro e w' ⟨rfl, ⟨nd, rfl⟩⟩; refine ⟨_, rfl, ?_⟩))
   go_ret
   exact ⟨by first | rfl | (simp; done) | (simp [*]; done), by repeat (first | exact Drawn0.refl _ | apply Drawn0.step)⟩
  ·replace c6 := Bool.eq_false_iff.mpr c6
   subst c6
   have H1 : (some (-1)) = some r := by rw [if_neg (show ¬ (false = true) by decide)] at H; exact H
   clear H
   have H := H1
   clear H1
   obtain rfl := Option.some.inj H
   have k113 := run113
   have k209 := run209
   go_enter Tryz.func111, Tryz.ntmps111
   go_wp2_with (first | ((with_reducible refine gate_callee (f := 166) rfl ?_); refine goesL_ (some 8) rfl rfl Tryz.func166 (by kernel_rfl) rfl #[.int .u64 a0] rfl (by (try simp only [List.map_toArray, List.map_cons, List.map_nil]); first | done | rfl | (simp only [List.length_drop, List.length_take]; rfl)) ?_; (with_reducible refine (cmp_isNaN_uint64.calls a0 true _ A3.out).mono ?_); rintro e w' ⟨rfl, ⟨nd, rfl⟩⟩; refine ⟨_, rfl, ?_⟩) | ((with_reducible refine gate_callee (f := 166) rfl ?_); refine goesL_ (some 10) rfl rfl Tryz.func166 (by kernel_rfl) rfl #[.int .u64 a1] rfl (by (try simp only [List.map_toArray, List.map_cons, List.map_nil]); first | done | rfl | (simp only [List.length_drop, List.length_take]; rfl)) ?_; (with_reducible refine (cmp_isNaN_uint64.calls a1 false _ A4.out).mono ?_); rintro e w' ⟨rfl, ⟨nd, rfl⟩⟩; refine ⟨_, rfl, ?_⟩))
   go_ret
   exact ⟨by first | rfl | (simp; done) | (simp [*]; done), by repeat (first | exact Drawn0.refl _ | apply Drawn0.step)⟩
 ·replace c5 := Bool.eq_false_iff.mpr c5
  subst c5
  have H1 : (if t118 = true then (some 1) else (if a0 < a1 then (some (-1)) else (if a0 > a1 then (some 1) else (some 0)))) = some r := by rw [if_neg (show ¬ (false = true) by decide)] at H; exact H
  clear H
  have H := H1
  clear H1
  by_cases c7 : t118 = true
  ·subst c7
   have H1 : (some 1) = some r := by rw [if_pos rfl] at H; exact H
   clear H
   have H := H1
   clear H1
   obtain rfl := Option.some.inj H
   have k113 := run113
   have k209 := run209
   go_enter Tryz.func111, Tryz.ntmps111
   go_wp2_with (first | ((with_reducible refine gate_callee (f := 166) rfl ?_); refine goesL_ (some 8) rfl rfl Tryz.func166 (by kernel_rfl) rfl #[.int .u64 a0] rfl (by (try simp only [List.map_toArray, List.map_cons, List.map_nil]); first | done | rfl | (simp only [List.length_drop, List.length_take]; rfl)) ?_; (with_reducible refine (cmp_isNaN_uint64.calls a0 false _ A3.out).mono ?_); rintro e w' ⟨rfl, ⟨nd, rfl⟩⟩; refine ⟨_, rfl, ?_⟩) | ((with_reducible refine gate_callee (f := 166) rfl ?_); refine goesL_ (some 10) rfl rfl Tryz.func166 (by kernel_rfl) rfl #[.int .u64 a1] rfl (by (try simp only [List.map_toArray, List.map_cons, List.map_nil]); first | done | rfl | (simp only [List.length_drop, List.length_take]; rfl)) ?_; (with_reducible refine (cmp_isNaN_uint64.calls a1 true _ A4.out).mono ?_); rintro e w' ⟨rfl, ⟨nd, rfl⟩⟩; refine ⟨_, rfl, ?_⟩))
   go_ret
   exact ⟨by first | rfl | (simp; done) | (simp [*]; done), by repeat (first | exact Drawn0.refl _ | apply Drawn0.step)⟩
  ·replace c7 := Bool.eq_false_iff.mpr c7
   subst c7
   have H1 : (if a0 < a1 then (some (-1)) else (if a0 > a1 then (some 1) else (some 0))) = some r := by rw [if_neg (show ¬ (false = true) by decide)] at H; exact H
   clear H
   have H := H1
   clear H1
   by_cases c8 : a0 < a1
   ·rw [if_pos c8] at H
    have c8b0 : decide (a0 < a1) = true := decide_eq_true c8
    clear c8
    obtain rfl := Option.some.inj H
    have k113 := run113
    have k209 := run209
    go_enter Tryz.func111, Tryz.ntmps111
    go_wp2_with (first | ((with_reducible refine gate_callee (f := 166) rfl ?_); refine goesL_ (some 8) rfl rfl Tryz.func166 (by kernel_rfl) rfl #[.int .u64 a0] rfl (by (try simp only [List.map_toArray, List.map_cons, List.map_nil]); first | done | rfl | (simp only [List.length_drop, List.length_take]; rfl)) ?_; (with_reducible refine (cmp_isNaN_uint64.calls a0 false _ A3.out).mono ?_); rintro e w' ⟨rfl, ⟨nd, rfl⟩⟩; refine ⟨_, rfl, ?_⟩) | ((with_reducible refine gate_callee (f := 166) rfl ?_); refine goesL_ (some 10) rfl rfl Tryz.func166 (by kernel_rfl) rfl #[.int .u64 a1] rfl (by (try simp only [List.map_toArray, List.map_cons, List.map_nil]); first | done | rfl | (simp only [List.length_drop, List.length_take]; rfl)) ?_; (with_reducible refine (cmp_isNaN_uint64.calls a1 false _ A4.out).mono ?_); rintro e w' ⟨rfl, ⟨nd, rfl⟩⟩; refine ⟨_, rfl, ?_⟩))
    go_ret
    exact ⟨by first | rfl | (simp; done) | (simp [*]; done), by repeat (first | exact Drawn0.refl _ | apply Drawn0.step)⟩
   ·rw [if_neg c8] at H
    have c8b0 : decide (a0 < a1) = false := decide_eq_false c8
    clear c8
    by_cases c9 : a0 > a1
    ·rw [if_pos c9] at H
     have c9b0 : decide (a1 < a0) = true := decide_eq_true c9
     clear c9
     obtain rfl := Option.some.inj H
     have k113 := run113
     have k209 := run209
     go_enter Tryz.func111, Tryz.ntmps111
     go_wp2_with (first | ((with_reducible refine gate_callee (f := 166) rfl ?_); refine goesL_ (some 8) rfl rfl Tryz.func166 (by kernel_rfl) rfl #[.int .u64 a0] rfl (by (try simp only [List.map_toArray, List.map_cons, List.map_nil]); first | done | rfl | (simp only [List.length_drop, List.length_take]; rfl)) ?_; (with_reducible refine (cmp_isNaN_uint64.calls a0 false _ A3.out).mono ?_); rintro e w' ⟨rfl, ⟨nd, rfl⟩⟩; refine ⟨_, rfl, ?_⟩) | ((with_reducible refine gate_callee (f := 166) rfl ?_); refine goesL_ (some 10) rfl rfl Tryz.func166 (by kernel_rfl) rfl #[.int .u64 a1] rfl (by (try simp only [List.map_toArray, List.map_cons, List.map_nil]); first | done | rfl | (simp only [List.length_drop, List.length_take]; rfl)) ?_; (with_reducible refine (cmp_isNaN_uint64.calls a1 false _ A4.out).mono ?_); rintro e w' ⟨rfl, ⟨nd, rfl⟩⟩; refine ⟨_, rfl, ?_⟩))
     go_ret
     exact ⟨by first | rfl | (simp; done) | (simp [*]; done), by repeat (first | exact Drawn0.refl _ | apply Drawn0.step)⟩
    ·rw [if_neg c9] at H
     have c9b0 : decide (a1 < a0) = false := decide_eq_false c9
     clear c9
     obtain rfl := Option.some.inj H
     have k113 := run113
     have k209 := run209
     go_enter Tryz.func111, Tryz.ntmps111
     go_wp2_with (first | ((with_reducible refine gate_callee (f := 166) rfl ?_); refine goesL_ (some 8) rfl rfl Tryz.func166 (by kernel_rfl) rfl #[.int .u64 a0] rfl (by (try simp only [List.map_toArray, List.map_cons, List.map_nil]); first | done | rfl | (simp only [List.length_drop, List.length_take]; rfl)) ?_; (with_reducible refine (cmp_isNaN_uint64.calls a0 false _ A3.out).mono ?_); rintro e w' ⟨rfl, ⟨nd, rfl⟩⟩; refine ⟨_, rfl, ?_⟩) | ((with_reducible refine gate_callee (f := 166) rfl ?_); refine goesL_ (some 10) rfl rfl Tryz.func166 (by kernel_rfl) rfl #[.int .u64 a1] rfl (by (try simp only [List.map_toArray, List.map_cons, List.map_nil]); first | done | rfl | (simp only [List.length_drop, List.length_take]; rfl)) ?_; (with_reducible refine (cmp_isNaN_uint64.calls a1 false _ A4.out).mono ?_); rintro e w' ⟨rfl, ⟨nd, rfl⟩⟩; refine ⟨_, rfl, ?_⟩))
     go_ret
     exact ⟨by first | rfl | (simp; done) | (simp [*]; done), by repeat (first | exact Drawn0.refl _ | apply Drawn0.step)⟩
def bits_Compare.f (a0 : Nat) (a1 : Nat) : Option (Int) := (bits_Order.f a0).bind fun t119 => ((bits_Order.f a1).bind fun t120 => ((cmp_Compare_uint64.f t119 t120).bind fun t121 => (some t121)))
set_option maxHeartbeats 8000000 in
set_option maxRecDepth 100000 in
theorem bits_Compare.calls (a0 : Nat) (a1 : Nat) (r : Int) (w : World) (h : bits_Compare.f a0 a1 = some r) :
  Calls Tryz.prog 40 #[.float .f64 a0, .float .f64 a1] w fun e w' => e = .returned (.int .i64 r) ∧ Drawn0 w w' := by
 have H : ((bits_Order.f a0).bind fun t119 => ((bits_Order.f a1).bind fun t120 => ((cmp_Compare_uint64.f t119 t120).bind fun t121 => (some t121)))) = some r := h
 clear h
 replace H := Option.bind_eq_some_iff.mp H
 obtain ⟨t119, A30, H⟩ := H
 replace H : ((bits_Order.f a1).bind fun t120 => ((cmp_Compare_uint64.f t119 t120).bind fun t121 => (some t121))) = some r := H
 have A3 := Aside0.mk A30
 clear A30
 replace H := Option.bind_eq_some_iff.mp H
 obtain ⟨t120, A40, H⟩ := H
 replace H : ((cmp_Compare_uint64.f t119 t120).bind fun t121 => (some t121)) = some r := H
 have A4 := Aside0.mk A40
 clear A40
 replace H := Option.bind_eq_some_iff.mp H
 obtain ⟨t121, A50, H⟩ := H
 replace H : (some t121) = some r := H
 have A5 := Aside0.mk A50
 clear A50
 obtain rfl := Option.some.inj H
 have k113 := run113
 have k209 := run209
 go_enter Tryz.func40, Tryz.ntmps40
 go_wp2_with (first | ((with_reducible refine gate_callee (f := 112) rfl ?_); refine goesL_ (some 6) rfl rfl Tryz.func112 (by kernel_rfl) rfl #[.float .f64 a0] rfl (by (try simp only [List.map_toArray, List.map_cons, List.map_nil]); first | done | rfl | (simp only [List.length_drop, List.length_take]; rfl)) ?_; (with_reducible refine (bits_Order.calls a0 t119 _ A3.out).mono ?_); rintro e w' ⟨rfl, ⟨nd, rfl⟩⟩; refine ⟨_, rfl, ?_⟩) | ((with_reducible refine gate_callee (f := 112) rfl ?_); refine goesL_ (some 8) rfl rfl Tryz.func112 (by kernel_rfl) rfl #[.float .f64 a1] rfl (by (try simp only [List.map_toArray, List.map_cons, List.map_nil]); first | done | rfl | (simp only [List.length_drop, List.length_take]; rfl)) ?_; (with_reducible refine (bits_Order.calls a1 t120 _ A4.out).mono ?_); rintro e w' ⟨rfl, ⟨nd, rfl⟩⟩; refine ⟨_, rfl, ?_⟩) | ((with_reducible refine gate_callee (f := 111) rfl ?_); refine goesL_ (some 9) rfl rfl Tryz.func111 (by kernel_rfl) rfl #[.int .u64 t119, .int .u64 t120] rfl (by (try simp only [List.map_toArray, List.map_cons, List.map_nil]); first | done | rfl | (simp only [List.length_drop, List.length_take]; rfl)) ?_; (with_reducible refine (cmp_Compare_uint64.calls t119 t120 t121 _ A5.out).mono ?_); rintro e w' ⟨rfl, ⟨nd, rfl⟩⟩; refine ⟨_, rfl, ?_⟩))
 go_ret
 exact ⟨by first | rfl | (simp; done) | (simp [*]; done), by repeat (first | exact Drawn0.refl _ | apply Drawn0.step)⟩
def value_Compare.f (k : Nat) (a0_0 : Int) (a0_1 : Int) (a0_2 : ByteArray) (a0_3 : Nat) (a1_0 : Int) (a1_1 : Int) (a1_2 : ByteArray) (a1_3 : Nat) : Option (Int) := (cmp_Compare_int.f a0_0 a1_0).bind fun t124 => ((cmp_Compare_int64.f a0_1 a1_1).bind fun t125 => ((strings_Compare.f a0_2 a1_2).bind fun t126 => ((bits_Compare.f a0_3 a1_3).bind fun t127 => ((cmp_Or_int.f k (([t124, t125, t126, t127] : List Int))).bind fun t131 => (some t131)))))
def value_Compare.T1 : Bool × List (List Nat × List Nat) := (true, [([], []), ([0], [0]), ([], []), ([2], [2]), ([1, 3], [1, 3]), ([], []), ([5], [5]), ([], []), ([7], [7]), ([6, 8, 4], [6, 8]), ([], []), ([10], [10]), ([], []), ([12], [12]), ([11, 13, 9], [11, 13]), ([], []), ([15], [15]), ([], []), ([17], [17]), ([16, 18, 14], [16, 18]), ([4, 9, 14, 19], [4, 9, 14, 19]), ([20, 19], [20]), ([21, 21, 0, 1, 2, 3, 4, 5, 6, 7, 8, 9, 10, 11, 12, 13, 14, 15, 16, 17, 18, 19, 20, 21], [21])])
def value_Compare.B1 : List Nat := [0, 1, 0, 4, 15, 0, 32, 0, 128, 511, 0, 1024, 0, 4096, 16383, 0, 32768, 0, 131072, 524287, 1048575, 2097151, 4194303]
theorem value_Compare.tab1 : rtab .any (opsOf Tryz.f12 1) = value_Compare.T1 := by kernel_rfl
theorem value_Compare.bits1 : waitsOk value_Compare.T1.2 value_Compare.B1 = true := by kernel_rfl
set_option maxHeartbeats 8000000 in
set_option maxRecDepth 100000 in
theorem value_Compare.calls (k : Nat) (a0_0 : Int) (a0_1 : Int) (a0_2 : ByteArray) (a0_3 : Nat) (a1_0 : Int) (a1_1 : Int) (a1_2 : ByteArray) (a1_3 : Nat) (r : Int) (w : World) (h : value_Compare.f k a0_0 a0_1 a0_2 a0_3 a1_0 a1_1 a1_2 a1_3 = some r) :
  Calls Tryz.prog 12 #[.agg #[.int .i64 a0_0, .int .i64 a0_1, .string a0_2, .float .f64 a0_3], .agg #[.int .i64 a1_0, .int .i64 a1_1, .string a1_2, .float .f64 a1_3]] w fun e w' => e = .returned (.int .i64 r) ∧ Below w.heap.size w w' := by
 have hu27 := Tryz.underlying27
 have HB := Aside0.mk (Below.refl w.heap.size w)
 have H : ((cmp_Compare_int.f a0_0 a1_0).bind fun t124 => ((cmp_Compare_int64.f a0_1 a1_1).bind fun t125 => ((strings_Compare.f a0_2 a1_2).bind fun t126 => ((bits_Compare.f a0_3 a1_3).bind fun t127 => ((cmp_Or_int.f k (([t124, t125, t126, t127] : List Int))).bind fun t131 => (some t131)))))) = some r := h
 clear h
 replace H := Option.bind_eq_some_iff.mp H
 obtain ⟨t124, A30, H⟩ := H
 replace H : ((cmp_Compare_int64.f a0_1 a1_1).bind fun t125 => ((strings_Compare.f a0_2 a1_2).bind fun t126 => ((bits_Compare.f a0_3 a1_3).bind fun t127 => ((cmp_Or_int.f k (([t124, t125, t126, t127] : List Int))).bind fun t131 => (some t131))))) = some r := H
 have A3 := Aside0.mk A30
 clear A30
 replace H := Option.bind_eq_some_iff.mp H
 obtain ⟨t125, A40, H⟩ := H
 replace H : ((strings_Compare.f a0_2 a1_2).bind fun t126 => ((bits_Compare.f a0_3 a1_3).bind fun t127 => ((cmp_Or_int.f k (([t124, t125, t126, t127] : List Int))).bind fun t131 => (some t131)))) = some r := H
 have A4 := Aside0.mk A40
 clear A40
 replace H := Option.bind_eq_some_iff.mp H
 obtain ⟨t126, A50, H⟩ := H
 replace H : ((bits_Compare.f a0_3 a1_3).bind fun t127 => ((cmp_Or_int.f k (([t124, t125, t126, t127] : List Int))).bind fun t131 => (some t131))) = some r := H
 have A5 := Aside0.mk A50
 clear A50
 replace H := Option.bind_eq_some_iff.mp H
 obtain ⟨t127, A60, H⟩ := H
 replace H : ((cmp_Or_int.f k (([t124, t125, t126, t127] : List Int))).bind fun t131 => (some t131)) = some r := H
 have A6 := Aside0.mk A60
 clear A60
 obtain ⟨y128, hy128⟩ : ∃ y_ : List Int, y_ = (([t124, t125, t126, t127] : List Int)) := ⟨_, rfl⟩
 replace H : ((cmp_Or_int.f k y128).bind fun t131 => (some t131)) = some r := by first | (rw [hy128]; with_reducible exact H) | (have H2_ := (Option.bind_some _ _).symm.trans H; rw [hy128]; with_reducible exact H2_) | (have H2_ := (Option.bind_some _ _).symm.trans H; with_reducible exact H2_) | with_reducible exact H | (rw [hy128]; exact H) | exact H
 have Ny128 := Aside0.mk hy128
 clear hy128
 replace H := Option.bind_eq_some_iff.mp H
 obtain ⟨t131, A70, H⟩ := H
 replace H : (some t131) = some r := H
 have A7 := Aside0.mk A70
 clear A70
 obtain rfl := Option.some.inj H
 have k113 := run113
 have k209 := run209
 go_enter Tryz.func12, Tryz.ntmps12
 try go_wp2_with (first | ((with_reducible refine gate_dst (N := 2) rfl ?_); refine box_event ?hg (N := 2) ?hd (cs := #[.int .i64 a0_0, .int .i64 a0_1, .string a0_2, .float .f64 a0_3]) (t := 27) ?hr ?_; (case hd => rfl); (case hg => rfl); (case hr => first | (go_simp; done) | (go_simp; rfl)); intro gb122 hg w8 hbox hb; have n0_ := Aside0.mk (below_step (by repeat (first | (with_reducible first | exact HB.out | apply below_alloc | apply pw_below_drewN | apply below_drew1) | exact HB.out)) hb); have n1_ := Aside0.mk (hbox); have n2_ := Aside0.mk ((by rw [hg]; exact (below_size (by repeat (first | (with_reducible first | exact HB.out | apply below_alloc | apply pw_below_drewN | apply below_drew1) | exact HB.out))) : w.heap.size ≤ gb122)); have n3_ := Aside0.mk ((by rw [hg]; exact (below_size (by repeat (first | (with_reducible first | exact HB.out | apply below_alloc | apply pw_below_drewN | apply below_drew1) | exact HB.out))) : w.heap.size ≤ gb122)); clear HB; have HB := n0_; have BK122 := n1_; have GW122 := n2_; have GE122 := n3_; clear n0_ n1_ n2_ n3_; clear hb hbox hg) | ((with_reducible refine gate_dst (N := 3) rfl ?_); refine box_event ?hg (N := 3) ?hd (cs := #[.int .i64 a1_0, .int .i64 a1_1, .string a1_2, .float .f64 a1_3]) (t := 27) ?hr ?_; (case hd => rfl); (case hg => rfl); (case hr => first | (go_simp; done) | (go_simp; rfl)); intro gb123 hg w9 hbox hb; have n0_ := Aside0.mk (blk_below (g := gb122) (o := .cells #[.int .i64 a0_0, .int .i64 a0_1, .string a0_2, .float .f64 a0_3] 27 (0, 0)) (by (with_reducible repeat (first | refine blk_drewN ?_ _ | refine blk_drew ?_ | refine blk_alloc ?_ _)); exact BK122.out) hb); have n1_ := Aside0.mk (below_step (by repeat (first | (with_reducible first | exact HB.out | apply below_alloc | apply pw_below_drewN | apply below_drew1 | refine below_set ?_ GE122.out) | exact HB.out)) hb); have n2_ := Aside0.mk (hbox); have n3_ := Aside0.mk ((by rw [hg]; exact (below_size (by repeat (first | (with_reducible first | exact HB.out | apply below_alloc | apply pw_below_drewN | apply below_drew1 | refine below_set ?_ GE122.out) | exact HB.out))) : w.heap.size ≤ gb123)); have n4_ := Aside0.mk ((by rw [hg]; exact (below_size (by repeat (first | (with_reducible first | exact HB.out | apply below_alloc | apply pw_below_drewN | apply below_drew1 | refine below_set ?_ GE122.out) | exact HB.out))) : w.heap.size ≤ gb123)); have n5_ := Aside0.mk ((by rw [hg]; exact Nat.ne_of_lt (blk_lt (g := gb122) (o := .cells #[.int .i64 a0_0, .int .i64 a0_1, .string a0_2, .float .f64 a0_3] 27 (0, 0)) (by (with_reducible repeat (first | refine blk_drewN ?_ _ | refine blk_drew ?_ | refine blk_alloc ?_ _)); exact BK122.out)) : gb122 ≠ gb123)); have n6_ := Aside0.mk ((by rw [hg]; exact Nat.ne_of_gt (blk_lt (g := gb122) (o := .cells #[.int .i64 a0_0, .int .i64 a0_1, .string a0_2, .float .f64 a0_3] 27 (0, 0)) (by (with_reducible repeat (first | refine blk_drewN ?_ _ | refine blk_drew ?_ | refine blk_alloc ?_ _)); exact BK122.out)) : gb123 ≠ gb122)); clear BK122; clear HB; have BK122 := n0_; have HB := n1_; have BK123 := n2_; have GW123 := n3_; have GE123 := n4_; have NB122_123 := n5_; have NB123_122 := n6_; clear n0_ n1_ n2_ n3_ n4_ n5_ n6_; clear hb hbox hg))
 have n0_ := Aside0.mk (blk_drew BK122.out)
 have n1_ := Aside0.mk (blk_drew BK123.out)
 have n2_ := Aside0.mk (below_drew1 HB.out)
 clear BK122
 clear BK123
 clear HB
 have BK122 := n0_
 have BK123 := n1_
 have HB := n2_
 clear n0_ n1_ n2_
 refine start_ (n := 23) (S := fun w' => w'.cell? ⟨gb122, 0, none⟩ = some (.int .i64 a0_0) ∧ w'.cell? ⟨gb122, 1, none⟩ = some (.int .i64 a0_1) ∧ w'.cell? ⟨gb122, 2, none⟩ = some (.string a0_2) ∧ w'.cell? ⟨gb122, 3, none⟩ = some (.float .f64 a0_3) ∧ w'.cell? ⟨gb123, 0, none⟩ = some (.int .i64 a1_0) ∧ w'.cell? ⟨gb123, 1, none⟩ = some (.int .i64 a1_1) ∧ w'.cell? ⟨gb123, 2, none⟩ = some (.string a1_2) ∧ w'.cell? ⟨gb123, 3, none⟩ = some (.float .f64 a1_3)) (ds := []) #[false, false, false, false, false, false, false, false, false, false, false, false, false, false, false, false, false, false, false, false, false, false, false] (by kernel_rfl) rfl rfl ⟨(blk_cell BK122.out 0).trans rfl, (blk_cell BK122.out 1).trans rfl, (blk_cell BK122.out 2).trans rfl, (blk_cell BK122.out 3).trans rfl, (blk_cell BK123.out 0).trans rfl, (blk_cell BK123.out 1).trans rfl, (blk_cell BK123.out 2).trans rfl, (blk_cell BK123.out 3).trans rfl⟩ (fun hHeld => ?_); refine with_tabW value_Compare.tab1 value_Compare.bits1 (fun HT_ HW_ => ?_)
 generalize w9.drew = w10 at BK122 BK123 HB hHeld ⊢
 refine pure_ (i := 0) (N := some 5) (v := ?_) (a' := ?_) #[true, false, false, false, false, false, false, false, false, false, false, false, false, false, false, false, false, false, false, false, false, false, false] rfl rfl (any_of HT_.out (by kernel_rfl)) (fun _ _ _ h => h) (Or.inl ⟨by rfl, ?_⟩) ?_ ?_
 rotate_left
 ·intro w'
  go_simp
  with_reducible rfl
 rotate_left
 ·simp only [Act.put, List.setIfInBounds_toArray, List.set_cons_zero, List.set_cons_succ, i64_w, i32_w]
  rfl
 refine pure_ (i := 2) (N := some 7) (v := ?_) (a' := ?_) #[true, false, true, false, false, false, false, false, false, false, false, false, false, false, false, false, false, false, false, false, false, false, false] rfl rfl (any_of HT_.out (by kernel_rfl)) (fun _ _ _ h => h) (Or.inl ⟨by rfl, ?_⟩) ?_ ?_
 rotate_left
 ·intro w'
  go_simp
  with_reducible rfl
 rotate_left
 ·simp only [Act.put, List.setIfInBounds_toArray, List.set_cons_zero, List.set_cons_succ, i64_w, i32_w]
  rfl
 refine pure_ (i := 5) (N := some 10) (v := ?_) (a' := ?_) #[true, false, true, false, false, true, false, false, false, false, false, false, false, false, false, false, false, false, false, false, false, false, false] rfl rfl (any_of HT_.out (by kernel_rfl)) (fun _ _ _ h => h) (Or.inl ⟨by rfl, ?_⟩) ?_ ?_
 rotate_left
 ·intro w'
  go_simp
  with_reducible rfl
 rotate_left
 ·simp only [Act.put, List.setIfInBounds_toArray, List.set_cons_zero, List.set_cons_succ, i64_w, i32_w]
  rfl
 refine pure_ (i := 7) (N := some 12) (v := ?_) (a' := ?_) #[true, false, true, false, false, true, false, true, false, false, false, false, false, false, false, false, false, false, false, false, false, false, false] rfl rfl (any_of HT_.out (by kernel_rfl)) (fun _ _ _ h => h) (Or.inl ⟨by rfl, ?_⟩) ?_ ?_
 rotate_left
 ·intro w'
  go_simp
  with_reducible rfl
 rotate_left
 ·simp only [Act.put, List.setIfInBounds_toArray, List.set_cons_zero, List.set_cons_succ, i64_w, i32_w]
  rfl
 refine pure_ (i := 10) (N := some 15) (v := ?_) (a' := ?_) #[true, false, true, false, false, true, false, true, false, false, true, false, false, false, false, false, false, false, false, false, false, false, false] rfl rfl (any_of HT_.out (by kernel_rfl)) (fun _ _ _ h => h) (Or.inl ⟨by rfl, ?_⟩) ?_ ?_
 rotate_left
 ·intro w'
  go_simp
  with_reducible rfl
 rotate_left
 ·simp only [Act.put, List.setIfInBounds_toArray, List.set_cons_zero, List.set_cons_succ, i64_w, i32_w]
  rfl
 refine pure_ (i := 12) (N := some 17) (v := ?_) (a' := ?_) #[true, false, true, false, false, true, false, true, false, false, true, false, true, false, false, false, false, false, false, false, false, false, false] rfl rfl (any_of HT_.out (by kernel_rfl)) (fun _ _ _ h => h) (Or.inl ⟨by rfl, ?_⟩) ?_ ?_
 rotate_left
 ·intro w'
  go_simp
  with_reducible rfl
 rotate_left
 ·simp only [Act.put, List.setIfInBounds_toArray, List.set_cons_zero, List.set_cons_succ, i64_w, i32_w]
  rfl
 refine pure_ (i := 15) (N := some 20) (v := ?_) (a' := ?_) #[true, false, true, false, false, true, false, true, false, false, true, false, true, false, false, true, false, false, false, false, false, false, false] rfl rfl (any_of HT_.out (by kernel_rfl)) (fun _ _ _ h => h) (Or.inl ⟨by rfl, ?_⟩) ?_ ?_
 rotate_left
 ·intro w'
  go_simp
  with_reducible rfl
 rotate_left
 ·simp only [Act.put, List.setIfInBounds_toArray, List.set_cons_zero, List.set_cons_succ, i64_w, i32_w]
  rfl
 refine pure_ (i := 17) (N := some 22) (v := ?_) (a' := ?_) #[true, false, true, false, false, true, false, true, false, false, true, false, true, false, false, true, false, true, false, false, false, false, false] rfl rfl (any_of HT_.out (by kernel_rfl)) (fun _ _ _ h => h) (Or.inl ⟨by rfl, ?_⟩) ?_ ?_
 rotate_left
 ·intro w'
  go_simp
  with_reducible rfl
 rotate_left
 ·simp only [Act.put, List.setIfInBounds_toArray, List.set_cons_zero, List.set_cons_succ, i64_w, i32_w]
  rfl
 refine take_ (i := 1) (N := some 6) (v := ?_) (a' := ?_) #[true, true, true, false, false, true, false, true, false, false, true, false, true, false, false, true, false, true, false, false, false, false, false] rfl rfl (take_ofW HT_.out HW_.out (by kernel_rfl)) (fun _ _ _ h => h) (Or.inl ⟨by rfl, ?_⟩) hHeld ?_ ?_
 rotate_left
 ·rintro w' ⟨s0, s1, s2, s3, s4, s5, s6, s7⟩
  go_simp
  with_reducible rfl
 rotate_left
 ·simp only [Act.put, List.setIfInBounds_toArray, List.set_cons_zero, List.set_cons_succ, i64_w, i32_w]
  rfl
 refine take_ (i := 3) (N := some 8) (v := ?_) (a' := ?_) #[true, true, true, true, false, true, false, true, false, false, true, false, true, false, false, true, false, true, false, false, false, false, false] rfl rfl (take_ofW HT_.out HW_.out (by kernel_rfl)) (fun _ _ _ h => h) (Or.inl ⟨by rfl, ?_⟩) hHeld ?_ ?_
 rotate_left
 ·rintro w' ⟨s0, s1, s2, s3, s4, s5, s6, s7⟩
  go_simp
  with_reducible rfl
 rotate_left
 ·simp only [Act.put, List.setIfInBounds_toArray, List.set_cons_zero, List.set_cons_succ, i64_w, i32_w]
  rfl
 refine take_ (i := 6) (N := some 11) (v := ?_) (a' := ?_) #[true, true, true, true, false, true, true, true, false, false, true, false, true, false, false, true, false, true, false, false, false, false, false] rfl rfl (take_ofW HT_.out HW_.out (by kernel_rfl)) (fun _ _ _ h => h) (Or.inl ⟨by rfl, ?_⟩) hHeld ?_ ?_
 rotate_left
 ·rintro w' ⟨s0, s1, s2, s3, s4, s5, s6, s7⟩
  go_simp
  with_reducible rfl
 rotate_left
 ·simp only [Act.put, List.setIfInBounds_toArray, List.set_cons_zero, List.set_cons_succ, i64_w, i32_w]
  rfl
 refine take_ (i := 8) (N := some 13) (v := ?_) (a' := ?_) #[true, true, true, true, false, true, true, true, true, false, true, false, true, false, false, true, false, true, false, false, false, false, false] rfl rfl (take_ofW HT_.out HW_.out (by kernel_rfl)) (fun _ _ _ h => h) (Or.inl ⟨by rfl, ?_⟩) hHeld ?_ ?_
 rotate_left
 ·rintro w' ⟨s0, s1, s2, s3, s4, s5, s6, s7⟩
  go_simp
  with_reducible rfl
 rotate_left
 ·simp only [Act.put, List.setIfInBounds_toArray, List.set_cons_zero, List.set_cons_succ, i64_w, i32_w]
  rfl
 refine take_ (i := 11) (N := some 16) (v := ?_) (a' := ?_) #[true, true, true, true, false, true, true, true, true, false, true, true, true, false, false, true, false, true, false, false, false, false, false] rfl rfl (take_ofW HT_.out HW_.out (by kernel_rfl)) (fun _ _ _ h => h) (Or.inl ⟨by rfl, ?_⟩) hHeld ?_ ?_
 rotate_left
 ·rintro w' ⟨s0, s1, s2, s3, s4, s5, s6, s7⟩
  go_simp
  with_reducible rfl
 rotate_left
 ·simp only [Act.put, List.setIfInBounds_toArray, List.set_cons_zero, List.set_cons_succ, i64_w, i32_w]
  rfl
 refine take_ (i := 13) (N := some 18) (v := ?_) (a' := ?_) #[true, true, true, true, false, true, true, true, true, false, true, true, true, true, false, true, false, true, false, false, false, false, false] rfl rfl (take_ofW HT_.out HW_.out (by kernel_rfl)) (fun _ _ _ h => h) (Or.inl ⟨by rfl, ?_⟩) hHeld ?_ ?_
 rotate_left
 ·rintro w' ⟨s0, s1, s2, s3, s4, s5, s6, s7⟩
  go_simp
  with_reducible rfl
 rotate_left
 ·simp only [Act.put, List.setIfInBounds_toArray, List.set_cons_zero, List.set_cons_succ, i64_w, i32_w]
  rfl
 refine take_ (i := 16) (N := some 21) (v := ?_) (a' := ?_) #[true, true, true, true, false, true, true, true, true, false, true, true, true, true, false, true, true, true, false, false, false, false, false] rfl rfl (take_ofW HT_.out HW_.out (by kernel_rfl)) (fun _ _ _ h => h) (Or.inl ⟨by rfl, ?_⟩) hHeld ?_ ?_
 rotate_left
 ·rintro w' ⟨s0, s1, s2, s3, s4, s5, s6, s7⟩
  go_simp
  with_reducible rfl
 rotate_left
 ·simp only [Act.put, List.setIfInBounds_toArray, List.set_cons_zero, List.set_cons_succ, i64_w, i32_w]
  rfl
 refine take_ (i := 18) (N := some 23) (v := ?_) (a' := ?_) #[true, true, true, true, false, true, true, true, true, false, true, true, true, true, false, true, true, true, true, false, false, false, false] rfl rfl (take_ofW HT_.out HW_.out (by kernel_rfl)) (fun _ _ _ h => h) (Or.inl ⟨by rfl, ?_⟩) hHeld ?_ ?_
 rotate_left
 ·rintro w' ⟨s0, s1, s2, s3, s4, s5, s6, s7⟩
  go_simp
  with_reducible rfl
 rotate_left
 ·simp only [Act.put, List.setIfInBounds_toArray, List.set_cons_zero, List.set_cons_succ, i64_w, i32_w]
  rfl
 refine one_ (i := 4) (N := some 9) #[true, true, true, true, true, true, true, true, true, false, true, true, true, true, false, true, true, true, true, false, false, false, false] rfl rfl (one_of HT_.out (by kernel_rfl)) (by decide) (fun K hK => ?_)
 refine goes_ Tryz.func37 (by kernel_rfl) rfl #[.int .i64 a0_0, .int .i64 a1_0] (by rfl) rfl rfl (by (try simp only [List.map_toArray, List.map_cons, List.map_nil]); first | done | rfl | (simp only [List.length_drop, List.length_take]; rfl)) ?_
 with_reducible refine (cmp_Compare_int.calls a0_0 a1_0 t124 _ A3.out).mono ?_
 rintro e w' ⟨rfl, ⟨nd, rfl⟩⟩
 refine ⟨_, rfl, ?_⟩
 refine hK.out _ _ ⟨(blk_cell BK122.out 0).trans rfl, (blk_cell BK122.out 1).trans rfl, (blk_cell BK122.out 2).trans rfl, (blk_cell BK122.out 3).trans rfl, (blk_cell BK123.out 0).trans rfl, (blk_cell BK123.out 1).trans rfl, (blk_cell BK123.out 2).trans rfl, (blk_cell BK123.out 3).trans rfl⟩ (fun hHeld => ?_)
 clear hK K
 refine norm_ (a' := ?_) ?_ ?_
 rotate_left
 ·show Act.put _ (some 9) _ = _
  simp only [Act.put, List.setIfInBounds_toArray, List.set_cons_zero, List.set_cons_succ, i64_w, i32_w]
  rfl
 refine one_ (i := 9) (N := some 14) #[true, true, true, true, true, true, true, true, true, true, true, true, true, true, false, true, true, true, true, false, false, false, false] rfl rfl (one_of HT_.out (by kernel_rfl)) (by decide) (fun K hK => ?_)
 refine goes_ Tryz.func38 (by kernel_rfl) rfl #[.int .i64 a0_1, .int .i64 a1_1] (by rfl) rfl rfl (by (try simp only [List.map_toArray, List.map_cons, List.map_nil]); first | done | rfl | (simp only [List.length_drop, List.length_take]; rfl)) ?_
 with_reducible refine (cmp_Compare_int64.calls a0_1 a1_1 t125 _ A4.out).mono ?_
 rintro e w' ⟨rfl, ⟨nd, rfl⟩⟩
 refine ⟨_, rfl, ?_⟩
 refine hK.out _ _ ⟨(blk_cell BK122.out 0).trans rfl, (blk_cell BK122.out 1).trans rfl, (blk_cell BK122.out 2).trans rfl, (blk_cell BK122.out 3).trans rfl, (blk_cell BK123.out 0).trans rfl, (blk_cell BK123.out 1).trans rfl, (blk_cell BK123.out 2).trans rfl, (blk_cell BK123.out 3).trans rfl⟩ (fun hHeld => ?_)
 clear hK K
 refine norm_ (a' := ?_) ?_ ?_
 rotate_left
 ·show Act.put _ (some 14) _ = _
  simp only [Act.put, List.setIfInBounds_toArray, List.set_cons_zero, List.set_cons_succ, i64_w, i32_w]
  rfl
 refine one_ (i := 14) (N := some 19) #[true, true, true, true, true, true, true, true, true, true, true, true, true, true, true, true, true, true, true, false, false, false, false] rfl rfl (one_of HT_.out (by kernel_rfl)) (by decide) (fun K hK => ?_)
 refine goes_ Tryz.func39 (by kernel_rfl) rfl #[.string a0_2, .string a1_2] (by rfl) rfl rfl (by (try simp only [List.map_toArray, List.map_cons, List.map_nil]); first | done | rfl | (simp only [List.length_drop, List.length_take]; rfl)) ?_
 with_reducible refine (strings_Compare.calls a0_2 a1_2 t126 _ A5.out).mono ?_
 rintro e w' ⟨rfl, ⟨nd, rfl⟩⟩
 refine ⟨_, rfl, ?_⟩
 refine hK.out _ _ ⟨(blk_cell BK122.out 0).trans rfl, (blk_cell BK122.out 1).trans rfl, (blk_cell BK122.out 2).trans rfl, (blk_cell BK122.out 3).trans rfl, (blk_cell BK123.out 0).trans rfl, (blk_cell BK123.out 1).trans rfl, (blk_cell BK123.out 2).trans rfl, (blk_cell BK123.out 3).trans rfl⟩ (fun hHeld => ?_)
 clear hK K
 refine norm_ (a' := ?_) ?_ ?_
 rotate_left
 ·show Act.put _ (some 19) _ = _
  simp only [Act.put, List.setIfInBounds_toArray, List.set_cons_zero, List.set_cons_succ, i64_w, i32_w]
  rfl
 refine one_ (i := 19) (N := some 24) #[true, true, true, true, true, true, true, true, true, true, true, true, true, true, true, true, true, true, true, true, false, false, false] rfl rfl (one_of HT_.out (by kernel_rfl)) (by decide) (fun K hK => ?_)
 refine goes_ Tryz.func40 (by kernel_rfl) rfl #[.float .f64 a0_3, .float .f64 a1_3] (by rfl) rfl rfl (by (try simp only [List.map_toArray, List.map_cons, List.map_nil]); first | done | rfl | (simp only [List.length_drop, List.length_take]; rfl)) ?_
 with_reducible refine (bits_Compare.calls a0_3 a1_3 t127 _ A6.out).mono ?_
 rintro e w' ⟨rfl, ⟨nd, rfl⟩⟩
 refine ⟨_, rfl, ?_⟩
 refine hK.out _ _ ⟨(blk_cell BK122.out 0).trans rfl, (blk_cell BK122.out 1).trans rfl, (blk_cell BK122.out 2).trans rfl, (blk_cell BK122.out 3).trans rfl, (blk_cell BK123.out 0).trans rfl, (blk_cell BK123.out 1).trans rfl, (blk_cell BK123.out 2).trans rfl, (blk_cell BK123.out 3).trans rfl⟩ (fun hHeld => ?_)
 clear hK K
 refine norm_ (a' := ?_) ?_ ?_
 rotate_left
 ·show Act.put _ (some 24) _ = _
  simp only [Act.put, List.setIfInBounds_toArray, List.set_cons_zero, List.set_cons_succ, i64_w, i32_w]
  rfl
 refine one_ (i := 20) (N := some 25) #[true, true, true, true, true, true, true, true, true, true, true, true, true, true, true, true, true, true, true, true, true, false, false] rfl rfl (one_of HT_.out (by kernel_rfl)) (by decide) (fun K hK => ?_)
 refine Kd.R_lit_step (Kd.int .i64) _ 3 ?hg (N := 25) ?hd (xs := ([t124, t125, t126, t127] : List Int)) (inner := [.int .i64 t124, .int .i64 t125, .int .i64 t126, .int .i64 t127]) (ok := fun _ => True) (okp := fun _ => True) ?hr ?hp (fun _ hk => hk) trivial (Below.refl _ _) (Nat.le_refl _) (by simp) ?_; (case hd => rfl); (case hg => rfl); (case hr => first | (go_simp; done) | (go_simp; rfl)); (case hp => exact (Reps.one (show Kd.M (Kd.int .i64) _ _ _ t124 [.int .i64 t124] from rfl) (Reps.one (show Kd.M (Kd.int .i64) _ _ _ t125 [.int .i64 t125] from rfl) (Reps.one (show Kd.M (Kd.int .i64) _ _ _ t126 [.int .i64 t126] from rfl) (Reps.one (show Kd.M (Kd.int .i64) _ _ _ t127 [.int .i64 t127] from rfl) (Reps.none _ _))))))
 intro v129 w11 ho12 hb hg_ hnew_
 clear hg_ hnew_
 (first | rw [← Ny128.out] at ho12 | (simp only [Int.reduceToNat] at ho12; rw [← Ny128.out] at ho12))
 have n0_ := Aside0.mk (Kd.R_lower ho12 (below_size (by repeat (first | (with_reducible first | exact HB.out | apply below_alloc | apply pw_below_drewN | apply below_drew1 | refine below_set ?_ GE122.out | refine below_set ?_ GE123.out) | exact HB.out))))
 have n1_ := Aside0.mk (blk_below (g := gb122) (o := .cells #[.int .i64 a0_0, .int .i64 a0_1, .string a0_2, .float .f64 a0_3] 27 (0, 0)) (by (with_reducible repeat (first | refine blk_drewN ?_ _ | refine blk_drew ?_ | refine blk_alloc ?_ _)); exact BK122.out) hb)
 have n2_ := Aside0.mk (blk_below (g := gb123) (o := .cells #[.int .i64 a1_0, .int .i64 a1_1, .string a1_2, .float .f64 a1_3] 27 (0, 0)) (by (with_reducible repeat (first | refine blk_drewN ?_ _ | refine blk_drew ?_ | refine blk_alloc ?_ _)); exact BK123.out) hb)
 have n3_ := Aside0.mk (below_step (by repeat (first | (with_reducible first | exact HB.out | apply below_alloc | apply pw_below_drewN | apply below_drew1 | refine below_set ?_ GE122.out | refine below_set ?_ GE123.out) | exact HB.out)) hb)
 clear BK122
 clear BK123
 clear HB
 have HO130 := n0_
 have BK122 := n1_
 have BK123 := n2_
 have HB := n3_
 clear n0_ n1_ n2_ n3_
 clear hb ho12
 obtain ⟨Ao13, co13, eo13⟩ := Kd.R_slice HO130.out
 (first | subst eo13 | (injection eo13 with f1_ f2_ f3_; have f4_ := f1_.symm; have f5_ := f3_.symm; clear f1_ f2_ f3_; subst f4_; subst f5_))
 refine hK.out _ _ ⟨(blk_cell BK122.out 0).trans rfl, (blk_cell BK122.out 1).trans rfl, (blk_cell BK122.out 2).trans rfl, (blk_cell BK122.out 3).trans rfl, (blk_cell BK123.out 0).trans rfl, (blk_cell BK123.out 1).trans rfl, (blk_cell BK123.out 2).trans rfl, (blk_cell BK123.out 3).trans rfl⟩ (fun hHeld => ?_)
 clear hK K
 refine norm_ (a' := ?_) ?_ ?_
 rotate_left
 ·show Act.put _ (some 25) _ = _
  simp only [Act.put, List.setIfInBounds_toArray, List.set_cons_zero, List.set_cons_succ, i64_w, i32_w]
  rfl
 refine one_ (i := 21) (N := some 26) #[true, true, true, true, true, true, true, true, true, true, true, true, true, true, true, true, true, true, true, true, true, true, false] rfl rfl (one_of HT_.out (by kernel_rfl)) (by decide) (fun K hK => ?_)
 refine goes_ Tryz.func36 (by kernel_rfl) rfl #[.slice Ao13 y128.length co13] (by rfl) rfl rfl (by (try simp only [List.map_toArray, List.map_cons, List.map_nil]); first | done | rfl | (simp only [List.length_drop, List.length_take]; rfl)) ?_
 with_reducible refine (cmp_Or_int.calls k _ _ y128 t131 _ ?side1 ?side2 A7.out).mono ?_
 (case side1 => repeat (first | exact (Kd.R_reads' HO130.out).2.2 | (with_reducible refine Kd.C_alloc ?_ _) | (with_reducible refine Kd.C_drewN ?_ _) | (with_reducible refine Kd.C_drew ?_)))
 (case side2 => exact (Kd.R_reads' HO130.out).2.1)
 rintro e w' ⟨rfl, ⟨nd, rfl⟩⟩
 refine ⟨_, rfl, ?_⟩
 refine hK.out _ _ ⟨(blk_cell BK122.out 0).trans rfl, (blk_cell BK122.out 1).trans rfl, (blk_cell BK122.out 2).trans rfl, (blk_cell BK122.out 3).trans rfl, (blk_cell BK123.out 0).trans rfl, (blk_cell BK123.out 1).trans rfl, (blk_cell BK123.out 2).trans rfl, (blk_cell BK123.out 3).trans rfl⟩ (fun hHeld => ?_)
 clear hK K
 refine norm_ (a' := ?_) ?_ ?_
 rotate_left
 ·show Act.put _ (some 26) _ = _
  simp only [Act.put, List.setIfInBounds_toArray, List.set_cons_zero, List.set_cons_succ, i64_w, i32_w]
  rfl
 refine pure_ (i := 22) (N := some 4) (v := ?_) (a' := ?_) #[true, true, true, true, true, true, true, true, true, true, true, true, true, true, true, true, true, true, true, true, true, true, true] rfl rfl (any_of HT_.out (by kernel_rfl)) (fun _ _ _ h => h) (Or.inl ⟨by rfl, ?_⟩) ?_ ?_
 rotate_left
 ·intro w'
  go_simp
  with_reducible rfl
 rotate_left
 ·simp only [Act.put, List.setIfInBounds_toArray, List.set_cons_zero, List.set_cons_succ, i64_w, i32_w]
  rfl
 refine done_ (done_of HT_.out (by kernel_rfl)) ?_
 try go_wp2
 go_ret
 exact ⟨by first | rfl | (simp [errW_none, errW_some] <;> rfl) | (simp [*, errW_none, errW_some] <;> rfl), by repeat (first | (with_reducible first | exact HB.out | apply below_alloc | apply pw_below_drewN | apply below_drew1 | refine below_set ?_ GE122.out | refine below_set ?_ GE123.out) | exact HB.out)⟩
def plan_Empty.f (k : Nat) (a0_0 : ByteArray) (l0_1 : List (S27)) (a0_2 : Int) (a0_3 : Int) (a0_4 : ByteArray) (a0_5 : Nat) (a0_6 : Int) (a0_7 : Int) (a0_8 : ByteArray) (a0_9 : Nat) (a0_10 : Bool) (a0_11 : Bool) (a0_12 : Bool) (a0_13 : Bool) (a0_14 : ByteArray) : Option (Bool) := (value_Compare.f k a0_2 a0_3 a0_4 a0_5 a0_6 a0_7 a0_8 a0_9).bind fun t425 => (if a0_10 = true then (if a0_11 = true then (if t425 > 0 then (some true) else (if t425 = 0 then (if a0_12 = true then (some true) else (some a0_13)) else (some false))) else (some false)) else (some false))
set_option maxHeartbeats 8000000 in
set_option maxRecDepth 100000 in
theorem plan_Empty.calls (k : Nat) (a0_0 : ByteArray) (A0_1 : Option Addr) (c0_1 : Nat) (l0_1 : List (S27)) (a0_2 : Int) (a0_3 : Int) (a0_4 : ByteArray) (a0_5 : Nat) (a0_6 : Int) (a0_7 : Int) (a0_8 : ByteArray) (a0_9 : Nat) (a0_10 : Bool) (a0_11 : Bool) (a0_12 : Bool) (a0_13 : Bool) (a0_14 : ByteArray) (r : Bool) (w : World) (hr0_1 : Kd.C k27 w A0_1 l0_1.length l0_1) (hc0_1 : l0_1.length ≤ c0_1) (h : plan_Empty.f k a0_0 l0_1 a0_2 a0_3 a0_4 a0_5 a0_6 a0_7 a0_8 a0_9 a0_10 a0_11 a0_12 a0_13 a0_14 = some r) :
  Calls Tryz.prog 6 #[.agg #[.string a0_0, .slice A0_1 l0_1.length c0_1, .int .i64 a0_2, .int .i64 a0_3, .string a0_4, .float .f64 a0_5, .int .i64 a0_6, .int .i64 a0_7, .string a0_8, .float .f64 a0_9, .bool a0_10, .bool a0_11, .bool a0_12, .bool a0_13, .string a0_14]] w fun e w' => e = .returned (.bool r) ∧ Below w.heap.size w w' := by
 have hu29 := Tryz.underlying29
 have hu27 := Tryz.underlying27
 have HR0_1 := Aside0.mk hr0_1
 have HC0_1 := Aside0.mk hc0_1
 clear hr0_1 hc0_1
 have HB := Aside0.mk (Below.refl w.heap.size w)
 have H : ((value_Compare.f k a0_2 a0_3 a0_4 a0_5 a0_6 a0_7 a0_8 a0_9).bind fun t425 => (if a0_10 = true then (if a0_11 = true then (if t425 > 0 then (some true) else (if t425 = 0 then (if a0_12 = true then (some true) else (some a0_13)) else (some false))) else (some false)) else (some false))) = some r := h
 clear h
 replace H := Option.bind_eq_some_iff.mp H
 obtain ⟨t425, A20, H⟩ := H
 replace H : (if a0_10 = true then (if a0_11 = true then (if t425 > 0 then (some true) else (if t425 = 0 then (if a0_12 = true then (some true) else (some a0_13)) else (some false))) else (some false)) else (some false)) = some r := H
 have A2 := Aside0.mk A20
 clear A20
 by_cases c3 : a0_10 = true
 ·subst c3
  have H1 : (if a0_11 = true then (if t425 > 0 then (some true) else (if t425 = 0 then (if a0_12 = true then (some true) else (some a0_13)) else (some false))) else (some false)) = some r := by rw [if_pos rfl] at H; exact H
  clear H
  have H := H1
  clear H1
  by_cases c4 : a0_11 = true
  ·subst c4
   have H1 : (if t425 > 0 then (some true) else (if t425 = 0 then (if a0_12 = true then (some true) else (some a0_13)) else (some false))) = some r := by rw [if_pos rfl] at H; exact H
   clear H
   have H := H1
   clear H1
   by_cases c5 : t425 > 0
   ·rw [if_pos c5] at H
    have c5b0 : decide (0 < t425) = true := decide_eq_true c5
    clear c5
    obtain rfl := Option.some.inj H
    have k113 := run113
    have k209 := run209
    go_enter Tryz.func6, Tryz.ntmps6
    go_wp2_with (first | ((with_reducible refine gate_dst (N := 1) rfl ?_); refine box_event ?hg (N := 1) ?hd (cs := #[.string a0_0, .slice A0_1 l0_1.length c0_1, .int .i64 a0_2, .int .i64 a0_3, .string a0_4, .float .f64 a0_5, .int .i64 a0_6, .int .i64 a0_7, .string a0_8, .float .f64 a0_9, .bool true, .bool true, .bool a0_12, .bool a0_13, .string a0_14]) (t := 29) ?hr ?_; (case hd => rfl); (case hg => rfl); (case hr => first | (go_simp; done) | (go_simp; rfl)); intro gb424 hg w6 hbox hb; have n0_ := Aside0.mk (below_step (by repeat (first | (with_reducible first | exact HB.out | apply below_alloc | apply pw_below_drewN | apply below_drew1) | exact HB.out)) hb); have n1_ := Aside0.mk (hbox); have n2_ := Aside0.mk ((by rw [hg]; exact (below_size (by repeat (first | (with_reducible first | exact HB.out | apply below_alloc | apply pw_below_drewN | apply below_drew1) | exact HB.out))) : w.heap.size ≤ gb424)); have n3_ := Aside0.mk ((by rw [hg]; exact (below_size (by repeat (first | (with_reducible first | exact HB.out | apply below_alloc | apply pw_below_drewN | apply below_drew1) | exact HB.out))) : w.heap.size ≤ gb424)); clear HB; have HB := n0_; have BK424 := n1_; have GW424 := n2_; have GE424 := n3_; clear n0_ n1_ n2_ n3_; clear hb hbox hg; have hcz7_0 : w6.cell? ⟨gb424, 0, none⟩ = some (.string a0_0) := (blk_cell BK424.out 0).trans rfl; have hcz7_1 : w6.cell? ⟨gb424, 1, none⟩ = some (.slice A0_1 l0_1.length c0_1) := (blk_cell BK424.out 1).trans rfl; have hcz7_2 : w6.cell? ⟨gb424, 2, none⟩ = some (.int .i64 a0_2) := (blk_cell BK424.out 2).trans rfl; have hcz7_3 : w6.cell? ⟨gb424, 3, none⟩ = some (.int .i64 a0_3) := (blk_cell BK424.out 3).trans rfl; have hcz7_4 : w6.cell? ⟨gb424, 4, none⟩ = some (.string a0_4) := (blk_cell BK424.out 4).trans rfl; have hcz7_5 : w6.cell? ⟨gb424, 5, none⟩ = some (.float .f64 a0_5) := (blk_cell BK424.out 5).trans rfl; have hcz7_6 : w6.cell? ⟨gb424, 6, none⟩ = some (.int .i64 a0_6) := (blk_cell BK424.out 6).trans rfl; have hcz7_7 : w6.cell? ⟨gb424, 7, none⟩ = some (.int .i64 a0_7) := (blk_cell BK424.out 7).trans rfl; have hcz7_8 : w6.cell? ⟨gb424, 8, none⟩ = some (.string a0_8) := (blk_cell BK424.out 8).trans rfl; have hcz7_9 : w6.cell? ⟨gb424, 9, none⟩ = some (.float .f64 a0_9) := (blk_cell BK424.out 9).trans rfl; have hcz7_10 : w6.cell? ⟨gb424, 10, none⟩ = some (.bool true) := (blk_cell BK424.out 10).trans rfl; have hcz7_11 : w6.cell? ⟨gb424, 11, none⟩ = some (.bool true) := (blk_cell BK424.out 11).trans rfl; have hcz7_12 : w6.cell? ⟨gb424, 12, none⟩ = some (.bool a0_12) := (blk_cell BK424.out 12).trans rfl; have hcz7_13 : w6.cell? ⟨gb424, 13, none⟩ = some (.bool a0_13) := (blk_cell BK424.out 13).trans rfl; have hcz7_14 : w6.cell? ⟨gb424, 14, none⟩ = some (.string a0_14) := (blk_cell BK424.out 14).trans rfl; have hfz7_0 := blk_frozen BK424.out 0; have hfz7_1 := blk_frozen BK424.out 1; have hfz7_2 := blk_frozen BK424.out 2; have hfz7_3 := blk_frozen BK424.out 3; have hfz7_4 := blk_frozen BK424.out 4; have hfz7_5 := blk_frozen BK424.out 5; have hfz7_6 := blk_frozen BK424.out 6; have hfz7_7 := blk_frozen BK424.out 7; have hfz7_8 := blk_frozen BK424.out 8; have hfz7_9 := blk_frozen BK424.out 9; have hfz7_10 := blk_frozen BK424.out 10; have hfz7_11 := blk_frozen BK424.out 11; have hfz7_12 := blk_frozen BK424.out 12; have hfz7_13 := blk_frozen BK424.out 13; have hfz7_14 := blk_frozen BK424.out 14) | ((with_reducible refine gate_callee (f := 12) rfl ?_); refine goesL_ (some 8) rfl rfl Tryz.func12 (by kernel_rfl) rfl #[.agg #[.int .i64 a0_2, .int .i64 a0_3, .string a0_4, .float .f64 a0_5], .agg #[.int .i64 a0_6, .int .i64 a0_7, .string a0_8, .float .f64 a0_9]] rfl (by (try simp only [List.map_toArray, List.map_cons, List.map_nil]); first | done | rfl | (simp only [List.length_drop, List.length_take]; rfl)) ?_; (with_reducible refine (value_Compare.calls k a0_2 a0_3 a0_4 a0_5 a0_6 a0_7 a0_8 a0_9 t425 _ A2.out).mono ?_); rintro e w8 ⟨rfl, hb⟩; refine ⟨_, rfl, ?_⟩; have n0_ := Aside0.mk (blk_below (g := gb424) (o := .cells #[.string a0_0, .slice A0_1 l0_1.length c0_1, .int .i64 a0_2, .int .i64 a0_3, .string a0_4, .float .f64 a0_5, .int .i64 a0_6, .int .i64 a0_7, .string a0_8, .float .f64 a0_9, .bool true, .bool true, .bool a0_12, .bool a0_13, .string a0_14] 29 (0, 0)) (by (with_reducible repeat (first | refine blk_drewN ?_ _ | refine blk_drew ?_ | refine blk_alloc ?_ _)); exact BK424.out) hb); have n1_ := Aside0.mk (below_step (by repeat (first | (with_reducible first | exact HB.out | apply below_alloc | apply pw_below_drewN | apply below_drew1 | refine below_set ?_ GE424.out) | exact HB.out)) hb); clear BK424; clear HB; have BK424 := n0_; have HB := n1_; clear n0_ n1_; (try clear hb); (try clear hb2); (try clear hk); (try clear hi); have hcz9_0 : w8.cell? ⟨gb424, 0, none⟩ = some (.string a0_0) := (blk_cell BK424.out 0).trans rfl; have hcz9_1 : w8.cell? ⟨gb424, 1, none⟩ = some (.slice A0_1 l0_1.length c0_1) := (blk_cell BK424.out 1).trans rfl; have hcz9_2 : w8.cell? ⟨gb424, 2, none⟩ = some (.int .i64 a0_2) := (blk_cell BK424.out 2).trans rfl; have hcz9_3 : w8.cell? ⟨gb424, 3, none⟩ = some (.int .i64 a0_3) := (blk_cell BK424.out 3).trans rfl; have hcz9_4 : w8.cell? ⟨gb424, 4, none⟩ = some (.string a0_4) := (blk_cell BK424.out 4).trans rfl; have hcz9_5 : w8.cell? ⟨gb424, 5, none⟩ = some (.float .f64 a0_5) := (blk_cell BK424.out 5).trans rfl; have hcz9_6 : w8.cell? ⟨gb424, 6, none⟩ = some (.int .i64 a0_6) := (blk_cell BK424.out 6).trans rfl; have hcz9_7 : w8.cell? ⟨gb424, 7, none⟩ = some (.int .i64 a0_7) := (blk_cell BK424.out 7).trans rfl; have hcz9_8 : w8.cell? ⟨gb424, 8, none⟩ = some (.string a0_8) := (blk_cell BK424.out 8).trans rfl; have hcz9_9 : w8.cell? ⟨gb424, 9, none⟩ = some (.float .f64 a0_9) := (blk_cell BK424.out 9).trans rfl; have hcz9_10 : w8.cell? ⟨gb424, 10, none⟩ = some (.bool true) := (blk_cell BK424.out 10).trans rfl; have hcz9_11 : w8.cell? ⟨gb424, 11, none⟩ = some (.bool true) := (blk_cell BK424.out 11).trans rfl; have hcz9_12 : w8.cell? ⟨gb424, 12, none⟩ = some (.bool a0_12) := (blk_cell BK424.out 12).trans rfl; have hcz9_13 : w8.cell? ⟨gb424, 13, none⟩ = some (.bool a0_13) := (blk_cell BK424.out 13).trans rfl; have hcz9_14 : w8.cell? ⟨gb424, 14, none⟩ = some (.string a0_14) := (blk_cell BK424.out 14).trans rfl; have hfz9_0 := blk_frozen BK424.out 0; have hfz9_1 := blk_frozen BK424.out 1; have hfz9_2 := blk_frozen BK424.out 2; have hfz9_3 := blk_frozen BK424.out 3; have hfz9_4 := blk_frozen BK424.out 4; have hfz9_5 := blk_frozen BK424.out 5; have hfz9_6 := blk_frozen BK424.out 6; have hfz9_7 := blk_frozen BK424.out 7; have hfz9_8 := blk_frozen BK424.out 8; have hfz9_9 := blk_frozen BK424.out 9; have hfz9_10 := blk_frozen BK424.out 10; have hfz9_11 := blk_frozen BK424.out 11; have hfz9_12 := blk_frozen BK424.out 12; have hfz9_13 := blk_frozen BK424.out 13; have hfz9_14 := blk_frozen BK424.out 14))
    go_ret
    exact ⟨by first | rfl | (simp [errW_none, errW_some] <;> rfl) | (simp [*, errW_none, errW_some] <;> rfl), by repeat (first | (with_reducible first | exact HB.out | apply below_alloc | apply pw_below_drewN | apply below_drew1 | refine below_set ?_ GE424.out) | exact HB.out)⟩
   ·rw [if_neg c5] at H
    have c5b0 : decide (0 < t425) = false := decide_eq_false c5
    clear c5
    by_cases c10 : t425 = 0
    ·rw [if_pos c10] at H
     have c10b0 : (t425 == 0) = true := beq_iff_eq.mpr c10
     have c10b1 : (t425 != 0) = false := bne_eq_false_iff_eq.mpr c10
     clear c10
     by_cases c11 : a0_12 = true
     ·subst c11
      have H1 : (some true) = some r := by rw [if_pos rfl] at H; exact H
      clear H
      have H := H1
      clear H1
      obtain rfl := Option.some.inj H
      have k113 := run113
      have k209 := run209
      go_enter Tryz.func6, Tryz.ntmps6
      go_wp2_with (first | ((with_reducible refine gate_dst (N := 1) rfl ?_); refine box_event ?hg (N := 1) ?hd (cs := #[.string a0_0, .slice A0_1 l0_1.length c0_1, .int .i64 a0_2, .int .i64 a0_3, .string a0_4, .float .f64 a0_5, .int .i64 a0_6, .int .i64 a0_7, .string a0_8, .float .f64 a0_9, .bool true, .bool true, .bool true, .bool a0_13, .string a0_14]) (t := 29) ?hr ?_; (case hd => rfl); (case hg => rfl); (case hr => first | (go_simp; done) | (go_simp; rfl)); intro gb424 hg w12 hbox hb; have n0_ := Aside0.mk (below_step (by repeat (first | (with_reducible first | exact HB.out | apply below_alloc | apply pw_below_drewN | apply below_drew1) | exact HB.out)) hb); have n1_ := Aside0.mk (hbox); have n2_ := Aside0.mk ((by rw [hg]; exact (below_size (by repeat (first | (with_reducible first | exact HB.out | apply below_alloc | apply pw_below_drewN | apply below_drew1) | exact HB.out))) : w.heap.size ≤ gb424)); have n3_ := Aside0.mk ((by rw [hg]; exact (below_size (by repeat (first | (with_reducible first | exact HB.out | apply below_alloc | apply pw_below_drewN | apply below_drew1) | exact HB.out))) : w.heap.size ≤ gb424)); clear HB; have HB := n0_; have BK424 := n1_; have GW424 := n2_; have GE424 := n3_; clear n0_ n1_ n2_ n3_; clear hb hbox hg; have hcz13_0 : w12.cell? ⟨gb424, 0, none⟩ = some (.string a0_0) := (blk_cell BK424.out 0).trans rfl; have hcz13_1 : w12.cell? ⟨gb424, 1, none⟩ = some (.slice A0_1 l0_1.length c0_1) := (blk_cell BK424.out 1).trans rfl; have hcz13_2 : w12.cell? ⟨gb424, 2, none⟩ = some (.int .i64 a0_2) := (blk_cell BK424.out 2).trans rfl; have hcz13_3 : w12.cell? ⟨gb424, 3, none⟩ = some (.int .i64 a0_3) := (blk_cell BK424.out 3).trans rfl; have hcz13_4 : w12.cell? ⟨gb424, 4, none⟩ = some (.string a0_4) := (blk_cell BK424.out 4).trans rfl; have hcz13_5 : w12.cell? ⟨gb424, 5, none⟩ = some (.float .f64 a0_5) := (blk_cell BK424.out 5).trans rfl; have hcz13_6 : w12.cell? ⟨gb424, 6, none⟩ = some (.int .i64 a0_6) := (blk_cell BK424.out 6).trans rfl; have hcz13_7 : w12.cell? ⟨gb424, 7, none⟩ = some (.int .i64 a0_7) := (blk_cell BK424.out 7).trans rfl; have hcz13_8 : w12.cell? ⟨gb424, 8, none⟩ = some (.string a0_8) := (blk_cell BK424.out 8).trans rfl; have hcz13_9 : w12.cell? ⟨gb424, 9, none⟩ = some (.float .f64 a0_9) := (blk_cell BK424.out 9).trans rfl; have hcz13_10 : w12.cell? ⟨gb424, 10, none⟩ = some (.bool true) := (blk_cell BK424.out 10).trans rfl; have hcz13_11 : w12.cell? ⟨gb424, 11, none⟩ = some (.bool true) := (blk_cell BK424.out 11).trans rfl; have hcz13_12 : w12.cell? ⟨gb424, 12, none⟩ = some (.bool true) := (blk_cell BK424.out 12).trans rfl; have hcz13_13 : w12.cell? ⟨gb424, 13, none⟩ = some (.bool a0_13) := (blk_cell BK424.out 13).trans rfl; have hcz13_14 : w12.cell? ⟨gb424, 14, none⟩ = some (.string a0_14) := (blk_cell BK424.out 14).trans rfl; have hfz13_0 := blk_frozen BK424.out 0; have hfz13_1 := blk_frozen BK424.out 1; have hfz13_2 := blk_frozen BK424.out 2; have hfz13_3 := blk_frozen BK424.out 3; have hfz13_4 := blk_frozen BK424.out 4; have hfz13_5 := blk_frozen BK424.out 5; have hfz13_6 := blk_frozen BK424.out 6; have hfz13_7 := blk_frozen BK424.out 7; have hfz13_8 := blk_frozen BK424.out 8; have hfz13_9 := blk_frozen BK424.out 9; have hfz13_10 := blk_frozen BK424.out 10; have hfz13_11 := blk_frozen BK424.out 11; have hfz13_12 := blk_frozen BK424.out 12; have hfz13_13 := blk_frozen BK424.out 13; have hfz13_14 := blk_frozen BK424.out 14) | ((with_reducible refine gate_callee (f := 12) rfl ?_); refine goesL_ (some 8) rfl rfl Tryz.func12 (by kernel_rfl) rfl #[.agg #[.int .i64 a0_2, .int .i64 a0_3, .string a0_4, .float .f64 a0_5], .agg #[.int .i64 a0_6, .int .i64 a0_7, .string a0_8, .float .f64 a0_9]] rfl (by (try simp only [List.map_toArray, List.map_cons, List.map_nil]); first | done | rfl | (simp only [List.length_drop, List.length_take]; rfl)) ?_; (with_reducible refine (value_Compare.calls k a0_2 a0_3 a0_4 a0_5 a0_6 a0_7 a0_8 a0_9 t425 _ A2.out).mono ?_); rintro e w14 ⟨rfl, hb⟩; refine ⟨_, rfl, ?_⟩; have n0_ := Aside0.mk (blk_below (g := gb424) (o := .cells #[.string a0_0, .slice A0_1 l0_1.length c0_1, .int .i64 a0_2, .int .i64 a0_3, .string a0_4, .float .f64 a0_5, .int .i64 a0_6, .int .i64 a0_7, .string a0_8, .float .f64 a0_9, .bool true, .bool true, .bool true, .bool a0_13, .string a0_14] 29 (0, 0)) (by (with_reducible repeat (first | refine blk_drewN ?_ _ | refine blk_drew ?_ | refine blk_alloc ?_ _)); exact BK424.out) hb); have n1_ := Aside0.mk (below_step (by repeat (first | (with_reducible first | exact HB.out | apply below_alloc | apply pw_below_drewN | apply below_drew1 | refine below_set ?_ GE424.out) | exact HB.out)) hb); clear BK424; clear HB; have BK424 := n0_; have HB := n1_; clear n0_ n1_; (try clear hb); (try clear hb2); (try clear hk); (try clear hi); have hcz15_0 : w14.cell? ⟨gb424, 0, none⟩ = some (.string a0_0) := (blk_cell BK424.out 0).trans rfl; have hcz15_1 : w14.cell? ⟨gb424, 1, none⟩ = some (.slice A0_1 l0_1.length c0_1) := (blk_cell BK424.out 1).trans rfl; have hcz15_2 : w14.cell? ⟨gb424, 2, none⟩ = some (.int .i64 a0_2) := (blk_cell BK424.out 2).trans rfl; have hcz15_3 : w14.cell? ⟨gb424, 3, none⟩ = some (.int .i64 a0_3) := (blk_cell BK424.out 3).trans rfl; have hcz15_4 : w14.cell? ⟨gb424, 4, none⟩ = some (.string a0_4) := (blk_cell BK424.out 4).trans rfl; have hcz15_5 : w14.cell? ⟨gb424, 5, none⟩ = some (.float .f64 a0_5) := (blk_cell BK424.out 5).trans rfl; have hcz15_6 : w14.cell? ⟨gb424, 6, none⟩ = some (.int .i64 a0_6) := (blk_cell BK424.out 6).trans rfl; have hcz15_7 : w14.cell? ⟨gb424, 7, none⟩ = some (.int .i64 a0_7) := (blk_cell BK424.out 7).trans rfl; have hcz15_8 : w14.cell? ⟨gb424, 8, none⟩ = some (.string a0_8) := (blk_cell BK424.out 8).trans rfl; have hcz15_9 : w14.cell? ⟨gb424, 9, none⟩ = some (.float .f64 a0_9) := (blk_cell BK424.out 9).trans rfl; have hcz15_10 : w14.cell? ⟨gb424, 10, none⟩ = some (.bool true) := (blk_cell BK424.out 10).trans rfl; have hcz15_11 : w14.cell? ⟨gb424, 11, none⟩ = some (.bool true) := (blk_cell BK424.out 11).trans rfl; have hcz15_12 : w14.cell? ⟨gb424, 12, none⟩ = some (.bool true) := (blk_cell BK424.out 12).trans rfl; have hcz15_13 : w14.cell? ⟨gb424, 13, none⟩ = some (.bool a0_13) := (blk_cell BK424.out 13).trans rfl; have hcz15_14 : w14.cell? ⟨gb424, 14, none⟩ = some (.string a0_14) := (blk_cell BK424.out 14).trans rfl; have hfz15_0 := blk_frozen BK424.out 0; have hfz15_1 := blk_frozen BK424.out 1; have hfz15_2 := blk_frozen BK424.out 2; have hfz15_3 := blk_frozen BK424.out 3; have hfz15_4 := blk_frozen BK424.out 4; have hfz15_5 := blk_frozen BK424.out 5; have hfz15_6 := blk_frozen BK424.out 6; have hfz15_7 := blk_frozen BK424.out 7; have hfz15_8 := blk_frozen BK424.out 8; have hfz15_9 := blk_frozen BK424.out 9; have hfz15_10 := blk_frozen BK424.out 10; have hfz15_11 := blk_frozen BK424.out 11; have hfz15_12 := blk_frozen BK424.out 12; have hfz15_13 := blk_frozen BK424.out 13; have hfz15_14 := blk_frozen BK424.out 14))
      go_ret
      exact ⟨by first | rfl | (simp [errW_none, errW_some] <;> rfl) | (simp [*, errW_none, errW_some] <;> rfl), by repeat (first | (with_reducible first | exact HB.out | apply below_alloc | apply pw_below_drewN | apply below_drew1 | refine below_set ?_ GE424.out) | exact HB.out)⟩
     ·replace c11 := Bool.eq_false_iff.mpr c11
      subst c11
      have H1 : (some a0_13) = some r := by rw [if_neg (show ¬ (false = true) by decide)] at H; exact H
      clear H
      have H := H1
      clear H1
      obtain rfl := Option.some.inj H
      have k113 := run113
      have k209 := run209
      go_enter Tryz.func6, Tryz.ntmps6
      go_wp2_with (first | ((with_reducible refine gate_dst (N := 1) rfl ?_); refine box_event ?hg (N := 1) ?hd (cs := #[.string a0_0, .slice A0_1 l0_1.length c0_1, .int .i64 a0_2, .int .i64 a0_3, .string a0_4, .float .f64 a0_5, .int .i64 a0_6, .int .i64 a0_7, .string a0_8, .float .f64 a0_9, .bool true, .bool true, .bool false, .bool a0_13, .string a0_14]) (t := 29) ?hr ?_; (case hd => rfl); (case hg => rfl); (case hr => first | (go_simp; done) | (go_simp; rfl)); intro gb424 hg w16 hbox hb; have n0_ := Aside0.mk (below_step (by repeat (first | (with_reducible first | exact HB.out | apply below_alloc | apply pw_below_drewN | apply below_drew1) | exact HB.out)) hb); have n1_ := Aside0.mk (hbox); have n2_ := Aside0.mk ((by rw [hg]; exact (below_size (by repeat (first | (with_reducible first | exact HB.out | apply below_alloc | apply pw_below_drewN | apply below_drew1) | exact HB.out))) : w.heap.size ≤ gb424)); have n3_ := Aside0.mk ((by rw [hg]; exact (below_size (by repeat (first | (with_reducible first | exact HB.out | apply below_alloc | apply pw_below_drewN | apply below_drew1) | exact HB.out))) : w.heap.size ≤ gb424)); clear HB; have HB := n0_; have BK424 := n1_; have GW424 := n2_; have GE424 := n3_; clear n0_ n1_ n2_ n3_; clear hb hbox hg; have hcz17_0 : w16.cell? ⟨gb424, 0, none⟩ = some (.string a0_0) := (blk_cell BK424.out 0).trans rfl; have hcz17_1 : w16.cell? ⟨gb424, 1, none⟩ = some (.slice A0_1 l0_1.length c0_1) := (blk_cell BK424.out 1).trans rfl; have hcz17_2 : w16.cell? ⟨gb424, 2, none⟩ = some (.int .i64 a0_2) := (blk_cell BK424.out 2).trans rfl; have hcz17_3 : w16.cell? ⟨gb424, 3, none⟩ = some (.int .i64 a0_3) := (blk_cell BK424.out 3).trans rfl; have hcz17_4 : w16.cell? ⟨gb424, 4, none⟩ = some (.string a0_4) := (blk_cell BK424.out 4).trans rfl; have hcz17_5 : w16.cell? ⟨gb424, 5, none⟩ = some (.float .f64 a0_5) := (blk_cell BK424.out 5).trans rfl; have hcz17_6 : w16.cell? ⟨gb424, 6, none⟩ = some (.int .i64 a0_6) := (blk_cell BK424.out 6).trans rfl; have hcz17_7 : w16.cell? ⟨gb424, 7, none⟩ = some (.int .i64 a0_7) := (blk_cell BK424.out 7).trans rfl; have hcz17_8 : w16.cell? ⟨gb424, 8, none⟩ = some (.string a0_8) := (blk_cell BK424.out 8).trans rfl; have hcz17_9 : w16.cell? ⟨gb424, 9, none⟩ = some (.float .f64 a0_9) := (blk_cell BK424.out 9).trans rfl; have hcz17_10 : w16.cell? ⟨gb424, 10, none⟩ = some (.bool true) := (blk_cell BK424.out 10).trans rfl; have hcz17_11 : w16.cell? ⟨gb424, 11, none⟩ = some (.bool true) := (blk_cell BK424.out 11).trans rfl; have hcz17_12 : w16.cell? ⟨gb424, 12, none⟩ = some (.bool false) := (blk_cell BK424.out 12).trans rfl; have hcz17_13 : w16.cell? ⟨gb424, 13, none⟩ = some (.bool a0_13) := (blk_cell BK424.out 13).trans rfl; have hcz17_14 : w16.cell? ⟨gb424, 14, none⟩ = some (.string a0_14) := (blk_cell BK424.out 14).trans rfl; have hfz17_0 := blk_frozen BK424.out 0; have hfz17_1 := blk_frozen BK424.out 1; have hfz17_2 := blk_frozen BK424.out 2; have hfz17_3 := blk_frozen BK424.out 3; have hfz17_4 := blk_frozen BK424.out 4; have hfz17_5 := blk_frozen BK424.out 5; have hfz17_6 := blk_frozen BK424.out 6; have hfz17_7 := blk_frozen BK424.out 7; have hfz17_8 := blk_frozen BK424.out 8; have hfz17_9 := blk_frozen BK424.out 9; have hfz17_10 := blk_frozen BK424.out 10; have hfz17_11 := blk_frozen BK424.out 11; have hfz17_12 := blk_frozen BK424.out 12; have hfz17_13 := blk_frozen BK424.out 13; have hfz17_14 := blk_frozen BK424.out 14) | ((with_reducible refine gate_callee (f := 12) rfl ?_); refine goesL_ (some 8) rfl rfl Tryz.func12 (by kernel_rfl) rfl #[.agg #[.int .i64 a0_2, .int .i64 a0_3, .string a0_4, .float .f64 a0_5], .agg #[.int .i64 a0_6, .int .i64 a0_7, .string a0_8, .float .f64 a0_9]] rfl (by (try simp only [List.map_toArray, List.map_cons, List.map_nil]); first | done | rfl | (simp only [List.length_drop, List.length_take]; rfl)) ?_; (with_reducible refine (value_Compare.calls k a0_2 a0_3 a0_4 a0_5 a0_6 a0_7 a0_8 a0_9 t425 _ A2.out).mono ?_); rintro e w18 ⟨rfl, hb⟩; refine ⟨_, rfl, ?_⟩; have n0_ := Aside0.mk (blk_below (g := gb424) (o := .cells #[.string a0_0, .slice A0_1 l0_1.length c0_1, .int .i64 a0_2, .int .i64 a0_3, .string a0_4, .float .f64 a0_5, .int .i64 a0_6, .int .i64 a0_7, .string a0_8, .float .f64 a0_9, .bool true, .bool true, .bool false, .bool a0_13, .string a0_14] 29 (0, 0)) (by (with_reducible repeat (first | refine blk_drewN ?_ _ | refine blk_drew ?_ | refine blk_alloc ?_ _)); exact BK424.out) hb); have n1_ := Aside0.mk (below_step (by repeat (first | (with_reducible first | exact HB.out | apply below_alloc | apply pw_below_drewN | apply below_drew1 | refine below_set ?_ GE424.out) | exact HB.out)) hb); clear BK424; clear HB; have BK424 := n0_; have HB := n1_; clear n0_ n1_; (try clear hb); (try clear hb2); (try clear hk); (try clear hi); have hcz19_0 : w18.cell? ⟨gb424, 0, none⟩ = some (.string a0_0) := (blk_cell BK424.out 0).trans rfl; have hcz19_1 : w18.cell? ⟨gb424, 1, none⟩ = some (.slice A0_1 l0_1.length c0_1) := (blk_cell BK424.out 1).trans rfl; have hcz19_2 : w18.cell? ⟨gb424, 2, none⟩ = some (.int .i64 a0_2) := (blk_cell BK424.out 2).trans rfl; have hcz19_3 : w18.cell? ⟨gb424, 3, none⟩ = some (.int .i64 a0_3) := (blk_cell BK424.out 3).trans rfl; have hcz19_4 : w18.cell? ⟨gb424, 4, none⟩ = some (.string a0_4) := (blk_cell BK424.out 4).trans rfl; have hcz19_5 : w18.cell? ⟨gb424, 5, none⟩ = some (.float .f64 a0_5) := (blk_cell BK424.out 5).trans rfl; have hcz19_6 : w18.cell? ⟨gb424, 6, none⟩ = some (.int .i64 a0_6) := (blk_cell BK424.out 6).trans rfl; have hcz19_7 : w18.cell? ⟨gb424, 7, none⟩ = some (.int .i64 a0_7) := (blk_cell BK424.out 7).trans rfl; have hcz19_8 : w18.cell? ⟨gb424, 8, none⟩ = some (.string a0_8) := (blk_cell BK424.out 8).trans rfl; have hcz19_9 : w18.cell? ⟨gb424, 9, none⟩ = some (.float .f64 a0_9) := (blk_cell BK424.out 9).trans rfl; have hcz19_10 : w18.cell? ⟨gb424, 10, none⟩ = some (.bool true) := (blk_cell BK424.out 10).trans rfl; have hcz19_11 : w18.cell? ⟨gb424, 11, none⟩ = some (.bool true) := (blk_cell BK424.out 11).trans rfl; have hcz19_12 : w18.cell? ⟨gb424, 12, none⟩ = some (.bool false) := (blk_cell BK424.out 12).trans rfl; have hcz19_13 : w18.cell? ⟨gb424, 13, none⟩ = some (.bool a0_13) := (blk_cell BK424.out 13).trans rfl; have hcz19_14 : w18.cell? ⟨gb424, 14, none⟩ = some (.string a0_14) := (blk_cell BK424.out 14).trans rfl; have hfz19_0 := blk_frozen BK424.out 0; have hfz19_1 := blk_frozen BK424.out 1; have hfz19_2 := blk_frozen BK424.out 2; have hfz19_3 := blk_frozen BK424.out 3; have hfz19_4 := blk_frozen BK424.out 4; have hfz19_5 := blk_frozen BK424.out 5; have hfz19_6 := blk_frozen BK424.out 6; have hfz19_7 := blk_frozen BK424.out 7; have hfz19_8 := blk_frozen BK424.out 8; have hfz19_9 := blk_frozen BK424.out 9; have hfz19_10 := blk_frozen BK424.out 10; have hfz19_11 := blk_frozen BK424.out 11; have hfz19_12 := blk_frozen BK424.out 12; have hfz19_13 := blk_frozen BK424.out 13; have hfz19_14 := blk_frozen BK424.out 14))
      go_ret
      exact ⟨by first | rfl | (simp [errW_none, errW_some] <;> rfl) | (simp [*, errW_none, errW_some] <;> rfl), by repeat (first | (with_reducible first | exact HB.out | apply below_alloc | apply pw_below_drewN | apply below_drew1 | refine below_set ?_ GE424.out) | exact HB.out)⟩
    ·rw [if_neg c10] at H
     have c10b0 : (t425 == 0) = false := beq_eq_false_iff_ne.mpr c10
     have c10b1 : (t425 != 0) = true := bne_iff_ne.mpr c10
     obtain rfl := Option.some.inj H
     have k113 := run113
     have k209 := run209
     go_enter Tryz.func6, Tryz.ntmps6
     go_wp2_with (first | ((with_reducible refine gate_dst (N := 1) rfl ?_); refine box_event ?hg (N := 1) ?hd (cs := #[.string a0_0, .slice A0_1 l0_1.length c0_1, .int .i64 a0_2, .int .i64 a0_3, .string a0_4, .float .f64 a0_5, .int .i64 a0_6, .int .i64 a0_7, .string a0_8, .float .f64 a0_9, .bool true, .bool true, .bool a0_12, .bool a0_13, .string a0_14]) (t := 29) ?hr ?_; (case hd => rfl); (case hg => rfl); (case hr => first | (go_simp; done) | (go_simp; rfl)); intro gb424 hg w20 hbox hb; have n0_ := Aside0.mk (below_step (by repeat (first | (with_reducible first | exact HB.out | apply below_alloc | apply pw_below_drewN | apply below_drew1) | exact HB.out)) hb); have n1_ := Aside0.mk (hbox); have n2_ := Aside0.mk ((by rw [hg]; exact (below_size (by repeat (first | (with_reducible first | exact HB.out | apply below_alloc | apply pw_below_drewN | apply below_drew1) | exact HB.out))) : w.heap.size ≤ gb424)); have n3_ := Aside0.mk ((by rw [hg]; exact (below_size (by repeat (first | (with_reducible first | exact HB.out | apply below_alloc | apply pw_below_drewN | apply below_drew1) | exact HB.out))) : w.heap.size ≤ gb424)); clear HB; have HB := n0_; have BK424 := n1_; have GW424 := n2_; have GE424 := n3_; clear n0_ n1_ n2_ n3_; clear hb hbox hg; have hcz21_0 : w20.cell? ⟨gb424, 0, none⟩ = some (.string a0_0) := (blk_cell BK424.out 0).trans rfl; have hcz21_1 : w20.cell? ⟨gb424, 1, none⟩ = some (.slice A0_1 l0_1.length c0_1) := (blk_cell BK424.out 1).trans rfl; have hcz21_2 : w20.cell? ⟨gb424, 2, none⟩ = some (.int .i64 a0_2) := (blk_cell BK424.out 2).trans rfl; have hcz21_3 : w20.cell? ⟨gb424, 3, none⟩ = some (.int .i64 a0_3) := (blk_cell BK424.out 3).trans rfl; have hcz21_4 : w20.cell? ⟨gb424, 4, none⟩ = some (.string a0_4) := (blk_cell BK424.out 4).trans rfl; have hcz21_5 : w20.cell? ⟨gb424, 5, none⟩ = some (.float .f64 a0_5) := (blk_cell BK424.out 5).trans rfl; have hcz21_6 : w20.cell? ⟨gb424, 6, none⟩ = some (.int .i64 a0_6) := (blk_cell BK424.out 6).trans rfl; have hcz21_7 : w20.cell? ⟨gb424, 7, none⟩ = some (.int .i64 a0_7) := (blk_cell BK424.out 7).trans rfl; have hcz21_8 : w20.cell? ⟨gb424, 8, none⟩ = some (.string a0_8) := (blk_cell BK424.out 8).trans rfl; have hcz21_9 : w20.cell? ⟨gb424, 9, none⟩ = some (.float .f64 a0_9) := (blk_cell BK424.out 9).trans rfl; have hcz21_10 : w20.cell? ⟨gb424, 10, none⟩ = some (.bool true) := (blk_cell BK424.out 10).trans rfl; have hcz21_11 : w20.cell? ⟨gb424, 11, none⟩ = some (.bool true) := (blk_cell BK424.out 11).trans rfl; have hcz21_12 : w20.cell? ⟨gb424, 12, none⟩ = some (.bool a0_12) := (blk_cell BK424.out 12).trans rfl; have hcz21_13 : w20.cell? ⟨gb424, 13, none⟩ = some (.bool a0_13) := (blk_cell BK424.out 13).trans rfl; have hcz21_14 : w20.cell? ⟨gb424, 14, none⟩ = some (.string a0_14) := (blk_cell BK424.out 14).trans rfl; have hfz21_0 := blk_frozen BK424.out 0; have hfz21_1 := blk_frozen BK424.out 1; have hfz21_2 := blk_frozen BK424.out 2; have hfz21_3 := blk_frozen BK424.out 3; have hfz21_4 := blk_frozen BK424.out 4; have hfz21_5 := blk_frozen BK424.out 5; have hfz21_6 := blk_frozen BK424.out 6; have hfz21_7 := blk_frozen BK424.out 7; have hfz21_8 := blk_frozen BK424.out 8; have hfz21_9 := blk_frozen BK424.out 9; have hfz21_10 := blk_frozen BK424.out 10; have hfz21_11 := blk_frozen BK424.out 11; have hfz21_12 := blk_frozen BK424.out 12; have hfz21_13 := blk_frozen BK424.out 13; have hfz21_14 := blk_frozen BK424.out 14) | ((with_reducible refine gate_callee (f := 12) rfl ?_); refine goesL_ (some 8) rfl rfl Tryz.func12 (by kernel_rfl) rfl #[.agg #[.int .i64 a0_2, .int .i64 a0_3, .string a0_4, .float .f64 a0_5], .agg #[.int .i64 a0_6, .int .i64 a0_7, .string a0_8, .float .f64 a0_9]] rfl (by (try simp only [List.map_toArray, List.map_cons, List.map_nil]); first | done | rfl | (simp only [List.length_drop, List.length_take]; rfl)) ?_; (with_reducible refine (value_Compare.calls k a0_2 a0_3 a0_4 a0_5 a0_6 a0_7 a0_8 a0_9 t425 _ A2.out).mono ?_); rintro e w22 ⟨rfl, hb⟩; refine ⟨_, rfl, ?_⟩; have n0_ := Aside0.mk (blk_below (g := gb424) (o := .cells #[.string a0_0, .slice A0_1 l0_1.length c0_1, .int .i64 a0_2, .int .i64 a0_3, .string a0_4, .float .f64 a0_5, .int .i64 a0_6, .int .i64 a0_7, .string a0_8, .float .f64 a0_9, .bool true, .bool true, .bool a0_12, .bool a0_13, .string a0_14] 29 (0, 0)) (by (with_reducible repeat (first | refine blk_drewN ?_ _ | refine blk_drew ?_ | refine blk_alloc ?_ _)); exact BK424.out) hb); have n1_ := Aside0.mk (below_step (by repeat (first | (with_reducible first | exact HB.out | apply below_alloc | apply pw_below_drewN | apply below_drew1 | refine below_set ?_ GE424.out) | exact HB.out)) hb); clear BK424; clear HB; have BK424 := n0_; have HB := n1_; clear n0_ n1_; (try clear hb); (try clear hb2); (try clear hk); (try clear hi); have hcz23_0 : w22.cell? ⟨gb424, 0, none⟩ = some (.string a0_0) := (blk_cell BK424.out 0).trans rfl; have hcz23_1 : w22.cell? ⟨gb424, 1, none⟩ = some (.slice A0_1 l0_1.length c0_1) := (blk_cell BK424.out 1).trans rfl; have hcz23_2 : w22.cell? ⟨gb424, 2, none⟩ = some (.int .i64 a0_2) := (blk_cell BK424.out 2).trans rfl; have hcz23_3 : w22.cell? ⟨gb424, 3, none⟩ = some (.int .i64 a0_3) := (blk_cell BK424.out 3).trans rfl; have hcz23_4 : w22.cell? ⟨gb424, 4, none⟩ = some (.string a0_4) := (blk_cell BK424.out 4).trans rfl; have hcz23_5 : w22.cell? ⟨gb424, 5, none⟩ = some (.float .f64 a0_5) := (blk_cell BK424.out 5).trans rfl; have hcz23_6 : w22.cell? ⟨gb424, 6, none⟩ = some (.int .i64 a0_6) := (blk_cell BK424.out 6).trans rfl; have hcz23_7 : w22.cell? ⟨gb424, 7, none⟩ = some (.int .i64 a0_7) := (blk_cell BK424.out 7).trans rfl; have hcz23_8 : w22.cell? ⟨gb424, 8, none⟩ = some (.string a0_8) := (blk_cell BK424.out 8).trans rfl; have hcz23_9 : w22.cell? ⟨gb424, 9, none⟩ = some (.float .f64 a0_9) := (blk_cell BK424.out 9).trans rfl; have hcz23_10 : w22.cell? ⟨gb424, 10, none⟩ = some (.bool true) := (blk_cell BK424.out 10).trans rfl; have hcz23_11 : w22.cell? ⟨gb424, 11, none⟩ = some (.bool true) := (blk_cell BK424.out 11).trans rfl; have hcz23_12 : w22.cell? ⟨gb424, 12, none⟩ = some (.bool a0_12) := (blk_cell BK424.out 12).trans rfl; have hcz23_13 : w22.cell? ⟨gb424, 13, none⟩ = some (.bool a0_13) := (blk_cell BK424.out 13).trans rfl; have hcz23_14 : w22.cell? ⟨gb424, 14, none⟩ = some (.string a0_14) := (blk_cell BK424.out 14).trans rfl; have hfz23_0 := blk_frozen BK424.out 0; have hfz23_1 := blk_frozen BK424.out 1; have hfz23_2 := blk_frozen BK424.out 2; have hfz23_3 := blk_frozen BK424.out 3; have hfz23_4 := blk_frozen BK424.out 4; have hfz23_5 := blk_frozen BK424.out 5; have hfz23_6 := blk_frozen BK424.out 6; have hfz23_7 := blk_frozen BK424.out 7; have hfz23_8 := blk_frozen BK424.out 8; have hfz23_9 := blk_frozen BK424.out 9; have hfz23_10 := blk_frozen BK424.out 10; have hfz23_11 := blk_frozen BK424.out 11; have hfz23_12 := blk_frozen BK424.out 12; have hfz23_13 := blk_frozen BK424.out 13; have hfz23_14 := blk_frozen BK424.out 14))
     go_ret
     exact ⟨by first | rfl | (simp [errW_none, errW_some] <;> rfl) | (simp [*, errW_none, errW_some] <;> rfl), by repeat (first | (with_reducible first | exact HB.out | apply below_alloc | apply pw_below_drewN | apply below_drew1 | refine below_set ?_ GE424.out) | exact HB.out)⟩
  ·replace c4 := Bool.eq_false_iff.mpr c4
   subst c4
   have H1 : (some false) = some r := by rw [if_neg (show ¬ (false = true) by decide)] at H; exact H
   clear H
   have H := H1
   clear H1
   obtain rfl := Option.some.inj H
   have k113 := run113
   have k209 := run209
   go_enter Tryz.func6, Tryz.ntmps6
   go_wp2_with (first | ((with_reducible refine gate_dst (N := 1) rfl ?_); refine box_event ?hg (N := 1) ?hd (cs := #[.string a0_0, .slice A0_1 l0_1.length c0_1, .int .i64 a0_2, .int .i64 a0_3, .string a0_4, .float .f64 a0_5, .int .i64 a0_6, .int .i64 a0_7, .string a0_8, .float .f64 a0_9, .bool true, .bool false, .bool a0_12, .bool a0_13, .string a0_14]) (t := 29) ?hr ?_; (case hd => rfl); (case hg => rfl); (case hr => first | (go_simp; done) | (go_simp; rfl)); intro gb424 hg w24 hbox hb; have n0_ := Aside0.mk (below_step (by repeat (first | (with_reducible first | exact HB.out | apply below_alloc | apply pw_below_drewN | apply below_drew1) | exact HB.out)) hb); have n1_ := Aside0.mk (hbox); have n2_ := Aside0.mk ((by rw [hg]; exact (below_size (by repeat (first | (with_reducible first | exact HB.out | apply below_alloc | apply pw_below_drewN | apply below_drew1) | exact HB.out))) : w.heap.size ≤ gb424)); have n3_ := Aside0.mk ((by rw [hg]; exact (below_size (by repeat (first | (with_reducible first | exact HB.out | apply below_alloc | apply pw_below_drewN | apply below_drew1) | exact HB.out))) : w.heap.size ≤ gb424)); clear HB; have HB := n0_; have BK424 := n1_; have GW424 := n2_; have GE424 := n3_; clear n0_ n1_ n2_ n3_; clear hb hbox hg; have hcz25_0 : w24.cell? ⟨gb424, 0, none⟩ = some (.string a0_0) := (blk_cell BK424.out 0).trans rfl; have hcz25_1 : w24.cell? ⟨gb424, 1, none⟩ = some (.slice A0_1 l0_1.length c0_1) := (blk_cell BK424.out 1).trans rfl; have hcz25_2 : w24.cell? ⟨gb424, 2, none⟩ = some (.int .i64 a0_2) := (blk_cell BK424.out 2).trans rfl; have hcz25_3 : w24.cell? ⟨gb424, 3, none⟩ = some (.int .i64 a0_3) := (blk_cell BK424.out 3).trans rfl; have hcz25_4 : w24.cell? ⟨gb424, 4, none⟩ = some (.string a0_4) := (blk_cell BK424.out 4).trans rfl; have hcz25_5 : w24.cell? ⟨gb424, 5, none⟩ = some (.float .f64 a0_5) := (blk_cell BK424.out 5).trans rfl; have hcz25_6 : w24.cell? ⟨gb424, 6, none⟩ = some (.int .i64 a0_6) := (blk_cell BK424.out 6).trans rfl; have hcz25_7 : w24.cell? ⟨gb424, 7, none⟩ = some (.int .i64 a0_7) := (blk_cell BK424.out 7).trans rfl; have hcz25_8 : w24.cell? ⟨gb424, 8, none⟩ = some (.string a0_8) := (blk_cell BK424.out 8).trans rfl; have hcz25_9 : w24.cell? ⟨gb424, 9, none⟩ = some (.float .f64 a0_9) := (blk_cell BK424.out 9).trans rfl; have hcz25_10 : w24.cell? ⟨gb424, 10, none⟩ = some (.bool true) := (blk_cell BK424.out 10).trans rfl; have hcz25_11 : w24.cell? ⟨gb424, 11, none⟩ = some (.bool false) := (blk_cell BK424.out 11).trans rfl; have hcz25_12 : w24.cell? ⟨gb424, 12, none⟩ = some (.bool a0_12) := (blk_cell BK424.out 12).trans rfl; have hcz25_13 : w24.cell? ⟨gb424, 13, none⟩ = some (.bool a0_13) := (blk_cell BK424.out 13).trans rfl; have hcz25_14 : w24.cell? ⟨gb424, 14, none⟩ = some (.string a0_14) := (blk_cell BK424.out 14).trans rfl; have hfz25_0 := blk_frozen BK424.out 0; have hfz25_1 := blk_frozen BK424.out 1; have hfz25_2 := blk_frozen BK424.out 2; have hfz25_3 := blk_frozen BK424.out 3; have hfz25_4 := blk_frozen BK424.out 4; have hfz25_5 := blk_frozen BK424.out 5; have hfz25_6 := blk_frozen BK424.out 6; have hfz25_7 := blk_frozen BK424.out 7; have hfz25_8 := blk_frozen BK424.out 8; have hfz25_9 := blk_frozen BK424.out 9; have hfz25_10 := blk_frozen BK424.out 10; have hfz25_11 := blk_frozen BK424.out 11; have hfz25_12 := blk_frozen BK424.out 12; have hfz25_13 := blk_frozen BK424.out 13; have hfz25_14 := blk_frozen BK424.out 14) | ((with_reducible refine gate_callee (f := 12) rfl ?_); refine goesL_ (some 8) rfl rfl Tryz.func12 (by kernel_rfl) rfl #[.agg #[.int .i64 a0_2, .int .i64 a0_3, .string a0_4, .float .f64 a0_5], .agg #[.int .i64 a0_6, .int .i64 a0_7, .string a0_8, .float .f64 a0_9]] rfl (by (try simp only [List.map_toArray, List.map_cons, List.map_nil]); first | done | rfl | (simp only [List.length_drop, List.length_take]; rfl)) ?_; (with_reducible refine (value_Compare.calls k a0_2 a0_3 a0_4 a0_5 a0_6 a0_7 a0_8 a0_9 t425 _ A2.out).mono ?_); rintro e w26 ⟨rfl, hb⟩; refine ⟨_, rfl, ?_⟩; have n0_ := Aside0.mk (blk_below (g := gb424) (o := .cells #[.string a0_0, .slice A0_1 l0_1.length c0_1, .int .i64 a0_2, .int .i64 a0_3, .string a0_4, .float .f64 a0_5, .int .i64 a0_6, .int .i64 a0_7, .string a0_8, .float .f64 a0_9, .bool true, .bool false, .bool a0_12, .bool a0_13, .string a0_14] 29 (0, 0)) (by (with_reducible repeat (first | refine blk_drewN ?_ _ | refine blk_drew ?_ | refine blk_alloc ?_ _)); exact BK424.out) hb); have n1_ := Aside0.mk (below_step (by repeat (first | (with_reducible first | exact HB.out | apply below_alloc | apply pw_below_drewN | apply below_drew1 | refine below_set ?_ GE424.out) | exact HB.out)) hb); clear BK424; clear HB; have BK424 := n0_; have HB := n1_; clear n0_ n1_; (try clear hb); (try clear hb2); (try clear hk); (try clear hi); have hcz27_0 : w26.cell? ⟨gb424, 0, none⟩ = some (.string a0_0) := (blk_cell BK424.out 0).trans rfl; have hcz27_1 : w26.cell? ⟨gb424, 1, none⟩ = some (.slice A0_1 l0_1.length c0_1) := (blk_cell BK424.out 1).trans rfl; have hcz27_2 : w26.cell? ⟨gb424, 2, none⟩ = some (.int .i64 a0_2) := (blk_cell BK424.out 2).trans rfl; have hcz27_3 : w26.cell? ⟨gb424, 3, none⟩ = some (.int .i64 a0_3) := (blk_cell BK424.out 3).trans rfl; have hcz27_4 : w26.cell? ⟨gb424, 4, none⟩ = some (.string a0_4) := (blk_cell BK424.out 4).trans rfl; have hcz27_5 : w26.cell? ⟨gb424, 5, none⟩ = some (.float .f64 a0_5) := (blk_cell BK424.out 5).trans rfl; have hcz27_6 : w26.cell? ⟨gb424, 6, none⟩ = some (.int .i64 a0_6) := (blk_cell BK424.out 6).trans rfl; have hcz27_7 : w26.cell? ⟨gb424, 7, none⟩ = some (.int .i64 a0_7) := (blk_cell BK424.out 7).trans rfl; have hcz27_8 : w26.cell? ⟨gb424, 8, none⟩ = some (.string a0_8) := (blk_cell BK424.out 8).trans rfl; have hcz27_9 : w26.cell? ⟨gb424, 9, none⟩ = some (.float .f64 a0_9) := (blk_cell BK424.out 9).trans rfl; have hcz27_10 : w26.cell? ⟨gb424, 10, none⟩ = some (.bool true) := (blk_cell BK424.out 10).trans rfl; have hcz27_11 : w26.cell? ⟨gb424, 11, none⟩ = some (.bool false) := (blk_cell BK424.out 11).trans rfl; have hcz27_12 : w26.cell? ⟨gb424, 12, none⟩ = some (.bool a0_12) := (blk_cell BK424.out 12).trans rfl; have hcz27_13 : w26.cell? ⟨gb424, 13, none⟩ = some (.bool a0_13) := (blk_cell BK424.out 13).trans rfl; have hcz27_14 : w26.cell? ⟨gb424, 14, none⟩ = some (.string a0_14) := (blk_cell BK424.out 14).trans rfl; have hfz27_0 := blk_frozen BK424.out 0; have hfz27_1 := blk_frozen BK424.out 1; have hfz27_2 := blk_frozen BK424.out 2; have hfz27_3 := blk_frozen BK424.out 3; have hfz27_4 := blk_frozen BK424.out 4; have hfz27_5 := blk_frozen BK424.out 5; have hfz27_6 := blk_frozen BK424.out 6; have hfz27_7 := blk_frozen BK424.out 7; have hfz27_8 := blk_frozen BK424.out 8; have hfz27_9 := blk_frozen BK424.out 9; have hfz27_10 := blk_frozen BK424.out 10; have hfz27_11 := blk_frozen BK424.out 11; have hfz27_12 := blk_frozen BK424.out 12; have hfz27_13 := blk_frozen BK424.out 13; have hfz27_14 := blk_frozen BK424.out 14))
   go_ret
   exact ⟨by first | rfl | (simp [errW_none, errW_some] <;> rfl) | (simp [*, errW_none, errW_some] <;> rfl), by repeat (first | (with_reducible first | exact HB.out | apply below_alloc | apply pw_below_drewN | apply below_drew1 | refine below_set ?_ GE424.out) | exact HB.out)⟩
 ·replace c3 := Bool.eq_false_iff.mpr c3
  subst c3
  have H1 : (some false) = some r := by rw [if_neg (show ¬ (false = true) by decide)] at H; exact H
  clear H
  have H := H1
  clear H1
  obtain rfl := Option.some.inj H
  have k113 := run113
  have k209 := run209
  go_enter Tryz.func6, Tryz.ntmps6
  go_wp2_with (first | ((with_reducible refine gate_dst (N := 1) rfl ?_); refine box_event ?hg (N := 1) ?hd (cs := #[.string a0_0, .slice A0_1 l0_1.length c0_1, .int .i64 a0_2, .int .i64 a0_3, .string a0_4, .float .f64 a0_5, .int .i64 a0_6, .int .i64 a0_7, .string a0_8, .float .f64 a0_9, .bool false, .bool a0_11, .bool a0_12, .bool a0_13, .string a0_14]) (t := 29) ?hr ?_; (case hd => rfl); (case hg => rfl); (case hr => first | (go_simp; done) | (go_simp; rfl)); intro gb424 hg w28 hbox hb; have n0_ := Aside0.mk (below_step (by repeat (first | (with_reducible first | exact HB.out | apply below_alloc | apply pw_below_drewN | apply below_drew1) | exact HB.out)) hb); have n1_ := Aside0.mk (hbox); have n2_ := Aside0.mk ((by rw [hg]; exact (below_size (by repeat (first | (with_reducible first | exact HB.out | apply below_alloc | apply pw_below_drewN | apply below_drew1) | exact HB.out))) : w.heap.size ≤ gb424)); have n3_ := Aside0.mk ((by rw [hg]; exact (below_size (by repeat (first | (with_reducible first | exact HB.out | apply below_alloc | apply pw_below_drewN | apply below_drew1) | exact HB.out))) : w.heap.size ≤ gb424)); clear HB; have HB := n0_; have BK424 := n1_; have GW424 := n2_; have GE424 := n3_; clear n0_ n1_ n2_ n3_; clear hb hbox hg; have hcz29_0 : w28.cell? ⟨gb424, 0, none⟩ = some (.string a0_0) := (blk_cell BK424.out 0).trans rfl; have hcz29_1 : w28.cell? ⟨gb424, 1, none⟩ = some (.slice A0_1 l0_1.length c0_1) := (blk_cell BK424.out 1).trans rfl; have hcz29_2 : w28.cell? ⟨gb424, 2, none⟩ = some (.int .i64 a0_2) := (blk_cell BK424.out 2).trans rfl; have hcz29_3 : w28.cell? ⟨gb424, 3, none⟩ = some (.int .i64 a0_3) := (blk_cell BK424.out 3).trans rfl; have hcz29_4 : w28.cell? ⟨gb424, 4, none⟩ = some (.string a0_4) := (blk_cell BK424.out 4).trans rfl; have hcz29_5 : w28.cell? ⟨gb424, 5, none⟩ = some (.float .f64 a0_5) := (blk_cell BK424.out 5).trans rfl; have hcz29_6 : w28.cell? ⟨gb424, 6, none⟩ = some (.int .i64 a0_6) := (blk_cell BK424.out 6).trans rfl; have hcz29_7 : w28.cell? ⟨gb424, 7, none⟩ = some (.int .i64 a0_7) := (blk_cell BK424.out 7).trans rfl; have hcz29_8 : w28.cell? ⟨gb424, 8, none⟩ = some (.string a0_8) := (blk_cell BK424.out 8).trans rfl; have hcz29_9 : w28.cell? ⟨gb424, 9, none⟩ = some (.float .f64 a0_9) := (blk_cell BK424.out 9).trans rfl; have hcz29_10 : w28.cell? ⟨gb424, 10, none⟩ = some (.bool false) := (blk_cell BK424.out 10).trans rfl; have hcz29_11 : w28.cell? ⟨gb424, 11, none⟩ = some (.bool a0_11) := (blk_cell BK424.out 11).trans rfl; have hcz29_12 : w28.cell? ⟨gb424, 12, none⟩ = some (.bool a0_12) := (blk_cell BK424.out 12).trans rfl; have hcz29_13 : w28.cell? ⟨gb424, 13, none⟩ = some (.bool a0_13) := (blk_cell BK424.out 13).trans rfl; have hcz29_14 : w28.cell? ⟨gb424, 14, none⟩ = some (.string a0_14) := (blk_cell BK424.out 14).trans rfl; have hfz29_0 := blk_frozen BK424.out 0; have hfz29_1 := blk_frozen BK424.out 1; have hfz29_2 := blk_frozen BK424.out 2; have hfz29_3 := blk_frozen BK424.out 3; have hfz29_4 := blk_frozen BK424.out 4; have hfz29_5 := blk_frozen BK424.out 5; have hfz29_6 := blk_frozen BK424.out 6; have hfz29_7 := blk_frozen BK424.out 7; have hfz29_8 := blk_frozen BK424.out 8; have hfz29_9 := blk_frozen BK424.out 9; have hfz29_10 := blk_frozen BK424.out 10; have hfz29_11 := blk_frozen BK424.out 11; have hfz29_12 := blk_frozen BK424.out 12; have hfz29_13 := blk_frozen BK424.out 13; have hfz29_14 := blk_frozen BK424.out 14) | ((with_reducible refine gate_callee (f := 12) rfl ?_); refine goesL_ (some 8) rfl rfl Tryz.func12 (by kernel_rfl) rfl #[.agg #[.int .i64 a0_2, .int .i64 a0_3, .string a0_4, .float .f64 a0_5], .agg #[.int .i64 a0_6, .int .i64 a0_7, .string a0_8, .float .f64 a0_9]] rfl (by (try simp only [List.map_toArray, List.map_cons, List.map_nil]); first | done | rfl | (simp only [List.length_drop, List.length_take]; rfl)) ?_; (with_reducible refine (value_Compare.calls k a0_2 a0_3 a0_4 a0_5 a0_6 a0_7 a0_8 a0_9 t425 _ A2.out).mono ?_); rintro e w30 ⟨rfl, hb⟩; refine ⟨_, rfl, ?_⟩; have n0_ := Aside0.mk (blk_below (g := gb424) (o := .cells #[.string a0_0, .slice A0_1 l0_1.length c0_1, .int .i64 a0_2, .int .i64 a0_3, .string a0_4, .float .f64 a0_5, .int .i64 a0_6, .int .i64 a0_7, .string a0_8, .float .f64 a0_9, .bool false, .bool a0_11, .bool a0_12, .bool a0_13, .string a0_14] 29 (0, 0)) (by (with_reducible repeat (first | refine blk_drewN ?_ _ | refine blk_drew ?_ | refine blk_alloc ?_ _)); exact BK424.out) hb); have n1_ := Aside0.mk (below_step (by repeat (first | (with_reducible first | exact HB.out | apply below_alloc | apply pw_below_drewN | apply below_drew1 | refine below_set ?_ GE424.out) | exact HB.out)) hb); clear BK424; clear HB; have BK424 := n0_; have HB := n1_; clear n0_ n1_; (try clear hb); (try clear hb2); (try clear hk); (try clear hi); have hcz31_0 : w30.cell? ⟨gb424, 0, none⟩ = some (.string a0_0) := (blk_cell BK424.out 0).trans rfl; have hcz31_1 : w30.cell? ⟨gb424, 1, none⟩ = some (.slice A0_1 l0_1.length c0_1) := (blk_cell BK424.out 1).trans rfl; have hcz31_2 : w30.cell? ⟨gb424, 2, none⟩ = some (.int .i64 a0_2) := (blk_cell BK424.out 2).trans rfl; have hcz31_3 : w30.cell? ⟨gb424, 3, none⟩ = some (.int .i64 a0_3) := (blk_cell BK424.out 3).trans rfl; have hcz31_4 : w30.cell? ⟨gb424, 4, none⟩ = some (.string a0_4) := (blk_cell BK424.out 4).trans rfl; have hcz31_5 : w30.cell? ⟨gb424, 5, none⟩ = some (.float .f64 a0_5) := (blk_cell BK424.out 5).trans rfl; have hcz31_6 : w30.cell? ⟨gb424, 6, none⟩ = some (.int .i64 a0_6) := (blk_cell BK424.out 6).trans rfl; have hcz31_7 : w30.cell? ⟨gb424, 7, none⟩ = some (.int .i64 a0_7) := (blk_cell BK424.out 7).trans rfl; have hcz31_8 : w30.cell? ⟨gb424, 8, none⟩ = some (.string a0_8) := (blk_cell BK424.out 8).trans rfl; have hcz31_9 : w30.cell? ⟨gb424, 9, none⟩ = some (.float .f64 a0_9) := (blk_cell BK424.out 9).trans rfl; have hcz31_10 : w30.cell? ⟨gb424, 10, none⟩ = some (.bool false) := (blk_cell BK424.out 10).trans rfl; have hcz31_11 : w30.cell? ⟨gb424, 11, none⟩ = some (.bool a0_11) := (blk_cell BK424.out 11).trans rfl; have hcz31_12 : w30.cell? ⟨gb424, 12, none⟩ = some (.bool a0_12) := (blk_cell BK424.out 12).trans rfl; have hcz31_13 : w30.cell? ⟨gb424, 13, none⟩ = some (.bool a0_13) := (blk_cell BK424.out 13).trans rfl; have hcz31_14 : w30.cell? ⟨gb424, 14, none⟩ = some (.string a0_14) := (blk_cell BK424.out 14).trans rfl; have hfz31_0 := blk_frozen BK424.out 0; have hfz31_1 := blk_frozen BK424.out 1; have hfz31_2 := blk_frozen BK424.out 2; have hfz31_3 := blk_frozen BK424.out 3; have hfz31_4 := blk_frozen BK424.out 4; have hfz31_5 := blk_frozen BK424.out 5; have hfz31_6 := blk_frozen BK424.out 6; have hfz31_7 := blk_frozen BK424.out 7; have hfz31_8 := blk_frozen BK424.out 8; have hfz31_9 := blk_frozen BK424.out 9; have hfz31_10 := blk_frozen BK424.out 10; have hfz31_11 := blk_frozen BK424.out 11; have hfz31_12 := blk_frozen BK424.out 12; have hfz31_13 := blk_frozen BK424.out 13; have hfz31_14 := blk_frozen BK424.out 14))
  go_ret
  exact ⟨by first | rfl | (simp [errW_none, errW_some] <;> rfl) | (simp [*, errW_none, errW_some] <;> rfl), by repeat (first | (with_reducible first | exact HB.out | apply below_alloc | apply pw_below_drewN | apply below_drew1 | refine below_set ?_ GE424.out) | exact HB.out)⟩
end Go.Proofs.YtlpmfiamelahjaaGreatDoor.Px
