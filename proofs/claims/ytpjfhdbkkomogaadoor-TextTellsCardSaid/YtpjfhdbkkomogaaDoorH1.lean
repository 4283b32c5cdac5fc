/- Texts of this claim, one behind the other. -/
import Derived.Ground.NamesProg
import Derived.Ground.Names7Prog
import Derived.Shelf.Strings.Repeat
import Derived.Shelf.Spec.TrailingZeros
import Derived.Test.YtpjfhdbkkomogaaDoorProg
import Derived.Test.YtpjfhdbkkomogaaDoorH0
import Derived.Laws.Strings
import Derived.Laws.BytesArg
import Derived.Shelf.Small.Strs
import Derived.Shelf.Strings.OnBuilder
import Derived.WalkKit
import Derived.Tactics
import Derived.Lib.Bytealg
import Derived.KernelRfl
import Derived.Laws.BitsLemmas
import Derived.Below
import Derived.Deep.Draws
import Derived.Deep.AppendLies
import Derived.Maps.AppendAt
import Derived.OwnWalk
import Derived.Laws.MakeOwn
import Derived.Laws.OwnMore
import Derived.Deep.OwnRows
import Derived.Lib.ConvBytes
import Derived.Laws.Slices
import Derived.RowKit3
import Derived.Deep.LoopGhost
import Derived.Deep.QuietTactic
import Derived.BigQuiet
import Derived.WideLaws
import Derived.Deep.DeepCutAuto
import Derived.Deep.CutBlock
import Derived.Deep.RegionHeld3
import Derived.Laws.Rows
import Derived.Lib.AppendStr
import Derived.ArgAppend
import Derived.Laws.IdiomCopy
import Derived.OrdersHeld
import Derived.RowKit
import Derived.Lib.Hide
namespace Go.Proofs
open Go.Shelf
def Tryd.rep105_ren : Go.Shelf.Ren := ⟨fun | 105 => 30 | 212 => 43 | 99 => 44 | 165 => 45 | 166 => 46 | 170 => 47 | 169 => 48 | 263 => 64 | 264 => 65 | 206 => 66 | 240 => 67 | 241 => 68 | 276 => 80 | 277 => 81 | n => n, fun | 9 => 9 | 3 => 3 | 4 => 4 | 20 => 20 | 0 => 0 | 46 => 69 | 109 => 70 | 5 => 5 | 72 => 75 | 76 => 79 | 51 => 103 | 146 => 104 | 53 => 47 | 148 => 106 | 70 => 73 | 37 => 57 | 75 => 78 | 127 => 108 | 164 => 116 | 80 => 82 | n => n, fun | n => n⟩
theorem Tryd.rep105 : Go.Proofs.Lays.n105 Tryd.prog Tryd.rep105_ren := {
  mixed := by kernel_rfl
  f99 := Tryd.func44.trans (congrArg some (by kernel_rfl))
  f105 := Tryd.func30.trans (congrArg some (by kernel_rfl))
  f165 := Tryd.func45.trans (congrArg some (by kernel_rfl))
  f166 := Tryd.func46.trans (congrArg some (by kernel_rfl))
  f169 := Tryd.func48.trans (congrArg some (by kernel_rfl))
  f170 := Tryd.func47.trans (congrArg some (by kernel_rfl))
  f206 := Tryd.func66.trans (congrArg some (by kernel_rfl))
  f212 := Tryd.func43.trans (congrArg some (by kernel_rfl))
  f240 := Tryd.func67.trans (congrArg some (by kernel_rfl))
  f241 := Tryd.func68.trans (congrArg some (by kernel_rfl))
  f263 := Tryd.func64.trans (congrArg some (by kernel_rfl))
  f264 := Tryd.func65.trans (congrArg some (by kernel_rfl))
  f276 := Tryd.func80.trans (congrArg some (by kernel_rfl))
  f277 := Tryd.func81.trans (congrArg some (by kernel_rfl))
  t0 := Tryd.underlying0
  a0 := Tryd.isAgg0
  z0 := Tryd.sizeOf0
  v0 := Tryd.zeroValue0
  t3 := Tryd.underlying3
  a3 := Tryd.isAgg3
  z3 := Tryd.sizeOf3
  v3 := Tryd.zeroValue3
  t4 := Tryd.underlying4
  a4 := Tryd.isAgg4
  z4 := Tryd.sizeOf4
  v4 := Tryd.zeroValue4
  t5 := Tryd.underlying5
  a5 := Tryd.isAgg5
  z5 := Tryd.sizeOf5
  v5 := Tryd.zeroValue5
  t9 := Tryd.underlying9
  a9 := Tryd.isAgg9
  z9 := Tryd.sizeOf9
  v9 := Tryd.zeroValue9
  t20 := Tryd.underlying20
  a20 := Tryd.isAgg20
  z20 := Tryd.sizeOf20
  v20 := Tryd.zeroValue20
  t37 := Tryd.underlying57
  a37 := Tryd.isAgg57
  z37 := Tryd.sizeOf57
  v37 := Tryd.zeroValue57
  t46 := Tryd.underlying69
  a46 := Tryd.isAgg69
  z46 := Tryd.sizeOf69
  v46 := Tryd.zeroValue69
  t51 := Tryd.underlying103
  a51 := Tryd.isAgg103
  z51 := Tryd.sizeOf103
  v51 := Tryd.zeroValue103
  t53 := Tryd.underlying47
  a53 := Tryd.isAgg47
  z53 := Tryd.sizeOf47
  v53 := Tryd.zeroValue47
  t70 := Tryd.underlying73
  a70 := Tryd.isAgg73
  z70 := Tryd.sizeOf73
  v70 := Tryd.zeroValue73
  t72 := Tryd.underlying75
  a72 := Tryd.isAgg75
  z72 := Tryd.sizeOf75
  v72 := Tryd.zeroValue75
  t75 := Tryd.underlying78
  a75 := Tryd.isAgg78
  z75 := Tryd.sizeOf78
  v75 := Tryd.zeroValue78
  t76 := Tryd.underlying79
  a76 := Tryd.isAgg79
  z76 := Tryd.sizeOf79
  v76 := Tryd.zeroValue79
  t109 := Tryd.underlying70
  a109 := Tryd.isAgg70
  z109 := Tryd.sizeOf70
  v109 := Tryd.zeroValue70
  t127 := Tryd.underlying108
  a127 := Tryd.isAgg108
  z127 := Tryd.sizeOf108
  v127 := Tryd.zeroValue108
  t146 := Tryd.underlying104
  a146 := Tryd.isAgg104
  z146 := Tryd.sizeOf104
  v146 := Tryd.zeroValue104
  t148 := Tryd.underlying106
  a148 := Tryd.isAgg106
  z148 := Tryd.sizeOf106
  v148 := Tryd.zeroValue106
  t164 := Tryd.underlying116
  a164 := Tryd.isAgg116
  z164 := Tryd.sizeOf116
  v164 := Tryd.zeroValue116 }
def Tryd.tz27_ren : Go.Shelf.Ren := ⟨fun | 27 => 79 | 28 => 89 | 29 => 90 | n => n, fun | 25 => 69 | 3 => 3 | 27 => 103 | 22 => 47 | 4 => 4 | 53 => 128 | 0 => 0 | 5 => 5 | 54 => 129 | n => n, fun | 0 => 5 | 1 => 6 | n => n⟩
theorem Tryd.tz27 : Go.Proofs.Lays7.n27 Tryd.prog Tryd.tz27_ren := {
  mixed := by kernel_rfl
  f27 := Tryd.func79.trans (congrArg some (by kernel_rfl))
  f28 := Tryd.func89.trans (congrArg some (by kernel_rfl))
  f29 := Tryd.func90.trans (congrArg some (by kernel_rfl))
  t0 := Tryd.underlying0
  a0 := Tryd.isAgg0
  z0 := Tryd.sizeOf0
  v0 := Tryd.zeroValue0
  i0 := by kernel_rfl
  t3 := Tryd.underlying3
  a3 := Tryd.isAgg3
  z3 := Tryd.sizeOf3
  v3 := Tryd.zeroValue3
  i3 := by kernel_rfl
  t4 := Tryd.underlying4
  a4 := Tryd.isAgg4
  z4 := Tryd.sizeOf4
  v4 := Tryd.zeroValue4
  i4 := by kernel_rfl
  t5 := Tryd.underlying5
  a5 := Tryd.isAgg5
  z5 := Tryd.sizeOf5
  v5 := Tryd.zeroValue5
  i5 := by kernel_rfl
  t22 := Tryd.underlying47
  a22 := Tryd.isAgg47
  z22 := Tryd.sizeOf47
  v22 := Tryd.zeroValue47
  i22 := by kernel_rfl
  t25 := Tryd.underlying69
  a25 := Tryd.isAgg69
  z25 := Tryd.sizeOf69
  v25 := Tryd.zeroValue69
  i25 := by kernel_rfl
  t27 := Tryd.underlying103
  a27 := Tryd.isAgg103
  z27 := Tryd.sizeOf103
  v27 := Tryd.zeroValue103
  i27 := by kernel_rfl
  t53 := Tryd.underlying128
  a53 := Tryd.isAgg128
  z53 := Tryd.sizeOf128
  v53 := Tryd.zeroValue128
  i53 := by kernel_rfl
  t54 := Tryd.underlying129
  a54 := Tryd.isAgg129
  z54 := Tryd.sizeOf129
  g0 := by kernel_rfl
  g1 := by kernel_rfl }
end Go.Proofs
namespace Go.Proofs.YtpjfhdbkkomogaaDoor.Mb
open Go.RowKit Go.Proofs.YtpjfhdbkkomogaaDoorW.PrintWords
def B (l : List UInt8) : ByteArray := ⟨l.toArray⟩
theorem B_data (s : ByteArray) : B s.data.toList = s := rfl
theorem data_B (l : List UInt8) : (B l).data.toList = l := rfl
theorem ext_data {s t : ByteArray} (h : s.data.toList = t.data.toList) : s = t := by rw [← B_data s, h, B_data]
theorem size_B (l : List UInt8) : (B l).size = l.length := rfl
theorem append_B (l m : List UInt8) : B l ++ B m = B (l ++ m) := ext_data (by rw [ByteArray.data_append, Array.toList_append]; rfl)
theorem extract_B (l : List UInt8) (i j : Nat) : (B l).extract i j = B ((l.drop i).take (j - i)) := by
  apply ext_data
  rw [ByteArray.data_extract, Array.toList_extract, List.extract_eq_take_drop]
  rfl
theorem tail_B (l : List UInt8) (i : Nat) : (B l).extract i (B l).size = B (l.drop i) := by
  rw [extract_B, size_B, List.take_of_length_le (by simp)]
theorem toList_B (l : List UInt8) : (B l).toList = l := by rw [ByteArray.toList_eq]; rfl
theorem bt_B (l : List UInt8) (i : Nat) (h : i < l.length) : bt (B l) i = (l[i].toNat : Int) := by
  unfold bt
  have h' : (i : Int).toNat < (B l).size := by rw [size_B]; simpa using h
  rw [dif_pos h']
  rfl
theorem bt_cons (c : UInt8) (l : List UInt8) : bt (B (c :: l)) 0 = (c.toNat : Int) := bt_B (c :: l) 0 (by simp)
theorem bt_cons2 (c d : UInt8) (l : List UInt8) : bt (B (c :: d :: l)) 1 = (d.toNat : Int) := bt_B (c :: d :: l) 1 (by simp)
def N (l : List UInt8) : List Int := l.map fun c => (c.toNat : Int)
theorem str_N (l : List UInt8) : strOfNums (N l) = B l := by
  unfold strOfNums B N
  congr 2
  rw [List.map_map]
  conv => rhs; rw [← List.map_id l]
  apply List.map_congr_left
  intro c _
  simp
theorem N_append (l m : List UInt8) : N l ++ N m = N (l ++ m) := by simp [N]
theorem N_length (l : List UInt8) : (N l).length = l.length := by simp [N]
theorem bytesOf_B (l : List UInt8) : bytesOf (B l) = N l := rfl
end Go.Proofs.YtpjfhdbkkomogaaDoor.Mb
namespace Go.Proofs
open Go.Shelf
def Tryd.ib137_ren : Go.Shelf.Ren := ⟨fun | 137 => 82 | 217 => 91 | 266 => 95 | n => n, fun | 9 => 9 | 5 => 5 | 3 => 3 | n => n, fun | n => n⟩
theorem Tryd.ib137 : Go.Proofs.Lays.n137 Tryd.prog Tryd.ib137_ren := {
  mixed := by kernel_rfl
  f137 := Tryd.func82.trans (congrArg some (by kernel_rfl))
  f217 := Tryd.func91.trans (congrArg some (by kernel_rfl))
  f266 := Tryd.func95.trans (congrArg some (by kernel_rfl))
  t3 := Tryd.underlying3
  a3 := Tryd.isAgg3
  z3 := Tryd.sizeOf3
  v3 := Tryd.zeroValue3
  t5 := Tryd.underlying5
  a5 := Tryd.isAgg5
  z5 := Tryd.sizeOf5
  v5 := Tryd.zeroValue5
  t9 := Tryd.underlying9
  a9 := Tryd.isAgg9
  z9 := Tryd.sizeOf9
  v9 := Tryd.zeroValue9 }
def Tryd.join156_ren : Go.Shelf.Ren := ⟨fun | 156 => 32 | 165 => 45 | 166 => 46 | 169 => 48 | 240 => 67 | 241 => 68 | 276 => 80 | 277 => 81 | n => n, fun | 31 => 59 | 9 => 9 | 3 => 3 | 4 => 4 | 0 => 0 | 20 => 20 | 72 => 75 | 76 => 79 | 70 => 73 | 37 => 57 | 75 => 78 | 127 => 108 | 164 => 116 | 5 => 5 | 80 => 82 | n => n, fun | n => n⟩
theorem Tryd.join156 : Go.Proofs.Lays.n156 Tryd.prog Tryd.join156_ren := {
  mixed := by kernel_rfl
  f156 := Tryd.func32.trans (congrArg some (by kernel_rfl))
  f165 := Tryd.func45.trans (congrArg some (by kernel_rfl))
  f166 := Tryd.func46.trans (congrArg some (by kernel_rfl))
  f169 := Tryd.func48.trans (congrArg some (by kernel_rfl))
  f240 := Tryd.func67.trans (congrArg some (by kernel_rfl))
  f241 := Tryd.func68.trans (congrArg some (by kernel_rfl))
  f276 := Tryd.func80.trans (congrArg some (by kernel_rfl))
  f277 := Tryd.func81.trans (congrArg some (by kernel_rfl))
  t0 := Tryd.underlying0
  a0 := Tryd.isAgg0
  z0 := Tryd.sizeOf0
  v0 := Tryd.zeroValue0
  t3 := Tryd.underlying3
  a3 := Tryd.isAgg3
  z3 := Tryd.sizeOf3
  v3 := Tryd.zeroValue3
  t4 := Tryd.underlying4
  a4 := Tryd.isAgg4
  z4 := Tryd.sizeOf4
  v4 := Tryd.zeroValue4
  t9 := Tryd.underlying9
  a9 := Tryd.isAgg9
  z9 := Tryd.sizeOf9
  v9 := Tryd.zeroValue9
  t20 := Tryd.underlying20
  a20 := Tryd.isAgg20
  z20 := Tryd.sizeOf20
  v20 := Tryd.zeroValue20
  t31 := Tryd.underlying59
  a31 := Tryd.isAgg59
  z31 := Tryd.sizeOf59
  v31 := Tryd.zeroValue59
  t37 := Tryd.underlying57
  a37 := Tryd.isAgg57
  z37 := Tryd.sizeOf57
  v37 := Tryd.zeroValue57
  t70 := Tryd.underlying73
  a70 := Tryd.isAgg73
  z70 := Tryd.sizeOf73
  v70 := Tryd.zeroValue73
  t72 := Tryd.underlying75
  a72 := Tryd.isAgg75
  z72 := Tryd.sizeOf75
  v72 := Tryd.zeroValue75
  t75 := Tryd.underlying78
  a75 := Tryd.isAgg78
  z75 := Tryd.sizeOf78
  v75 := Tryd.zeroValue78
  t76 := Tryd.underlying79
  a76 := Tryd.isAgg79
  z76 := Tryd.sizeOf79
  v76 := Tryd.zeroValue79
  t127 := Tryd.underlying108
  a127 := Tryd.isAgg108
  z127 := Tryd.sizeOf108
  v127 := Tryd.zeroValue108
  t164 := Tryd.underlying116
  a164 := Tryd.isAgg116
  z164 := Tryd.sizeOf116
  v164 := Tryd.zeroValue116 }
end Go.Proofs
namespace Go.Proofs.YtpjfhdbkkomogaaDoor.Gvn
open Go.RowKit Go.Proofs.YtpjfhdbkkomogaaDoorW.PrintWords Go.Proofs.YtpjfhdbkkomogaaDoorW.PrintLast Go.Proofs.YtpjfhdbkkomogaaDoorW.PrintMore
theorem run_store_float {P : Program} {w : World} {a : Addr} {m : Mode} (k : FloatKind) (n : Nat) : (store a (.float k n) m).run P w = stored P w a (.float k n) m := run_store P w a _ m rfl
def strings_IndexByte.f (a0 : ByteArray) (a1 : Int) : Option (Int) := some (Lib.indexByte a0.data.toList a1.toNat.toUInt8)
theorem strings_IndexByte.calls (a0 : ByteArray) (a1 : Int) (r : Int) (w : World) (h : strings_IndexByte.f a0 a1 = some r) :
    Calls Tryd.prog 82 #[.string a0, .int .u8 a1] w fun e w' => e = .returned (.int .i64 r) ∧ Drawn0 w w' := by
  obtain rfl := Option.some.inj h
  exact (Any.strings_IndexByte Tryd.ib137 a0 a1 w).mono fun e w' ⟨he, hw⟩ => ⟨he, by subst hw; exact Drawn0.refl _⟩
theorem gv23 (b : Nat) (w : World) : (callFunc 23 #[.float .f64 b]).run Tryd.prog w = .ok (.value (.int .u64 b)) w := by kernel_rfl
theorem u64_nat (n : Nat) (h : n < 18446744073709551616) : IntKind.u64.wrap (n : Int) = n := by simp [IntKind.wrap, IntKind.bits, IntKind.signed]; omega
theorem bv_nat (n : Nat) (h : n < 18446744073709551616) : (BitVec.ofInt 64 (n : Int)).toNat = n := by simp; omega
theorem testBit63 (a : Nat) (h : a < 18446744073709551616) : a &&& 9223372036854775808 = if a < 9223372036854775808 then 0 else 9223372036854775808 := by
  have key : a &&& 2 ^ 63 = if a < 2 ^ 63 then 0 else 2 ^ 63 := by
    apply Nat.eq_of_testBit_eq
    intro i
    rw [Nat.testBit_and, Nat.testBit_two_pow]
    by_cases h63 : i = 63
    · subst h63
      by_cases hlt : a < 2 ^ 63
      · rw [if_pos hlt, Nat.testBit_lt_two_pow hlt]; simp
      · rw [if_neg hlt, Nat.testBit_two_pow]
        have : a.testBit 63 = true := by
          rw [Nat.testBit_eq_decide_div_mod_eq]; simp; omega
        simp [this]
    · rw [decide_eq_false (Ne.symm h63), Bool.and_false]
      split
      · simp
      · rw [Nat.testBit_two_pow, decide_eq_false (Ne.symm h63)]
  exact key
theorem and63 (a : Nat) (h : a < 18446744073709551616) : Go.bits .and .u64 (a : Int) 9223372036854775808 = if a < 9223372036854775808 then 0 else 9223372036854775808 := by
  have e : (BitVec.ofInt 64 (a : Int) &&& BitVec.ofInt 64 9223372036854775808).toNat = if a < 9223372036854775808 then 0 else 9223372036854775808 := by
    rw [BitVec.toNat_and, bv_nat a h, ← testBit63 a h]; rfl
  show IntKind.u64.wrap ((BitVec.ofInt 64 (a : Int) &&& BitVec.ofInt 64 9223372036854775808).toNat : Int) = _
  rw [e]
  split <;> rfl
theorem or63 (a : Nat) (h : a < 9223372036854775808) : Go.bits .or .u64 (a : Int) 9223372036854775808 = ((a + 9223372036854775808 : Nat) : Int) := by
  have e : (BitVec.ofInt 64 (a : Int) ||| BitVec.ofInt 64 9223372036854775808).toNat = a + 9223372036854775808 := by
    rw [BitVec.toNat_or, bv_nat a (by omega)]
    show a ||| 2 ^ 63 = a + 2 ^ 63
    have h' : a < 2 ^ 63 := h
    have := Nat.two_pow_add_eq_or_of_lt h' 1
    rw [Nat.mul_one] at this
    rw [Nat.or_comm, ← this, Nat.add_comm]
  show IntKind.u64.wrap ((BitVec.ofInt 64 (a : Int) ||| BitVec.ofInt 64 9223372036854775808).toNat : Int) = _
  rw [e, u64_nat _ (by omega)]
theorem xor63 (a : Nat) (h : a < 18446744073709551616) : Go.bits .xor .u64 IntKind.u64.max (a : Int) = 18446744073709551615 - (a : Int) := by
  have e : (BitVec.ofInt 64 IntKind.u64.max ^^^ BitVec.ofInt 64 (a : Int)).toNat = 18446744073709551615 - a := by
    have h1 : BitVec.ofInt 64 IntKind.u64.max = BitVec.allOnes 64 := by decide
    rw [h1, BitVec.allOnes_xor, BitVec.toNat_not, bv_nat a h]
  show IntKind.u64.wrap ((BitVec.ofInt 64 IntKind.u64.max ^^^ BitVec.ofInt 64 (a : Int)).toNat : Int) = _
  rw [e, u64_nat _ (by omega)]
  omega
def bits_Order.f (a0 : Nat) : Option (Int) := if a0 < 18446744073709551616 then some (if a0 < 9223372036854775808 then a0 + 9223372036854775808 else 18446744073709551615 - a0) else none
set_option maxRecDepth 100000 in
theorem bits_Order.calls (a0 : Nat) (r : Int) (w : World) (h : bits_Order.f a0 = some r) :
    Calls Tryd.prog 39 #[.float .f64 a0] w fun e w' => e = .returned (.int .u64 r) ∧ Drawn0 w w' := by
  unfold bits_Order.f at h
  split at h
  · rename_i hlt
    have hr := Option.some.inj h
    have ha := and63 a0 hlt
    have k23 := gv23 a0
    by_cases hs : a0 < 9223372036854775808
    · rw [if_pos hs] at ha hr
      have ho := or63 a0 hs
      have hb : (Go.bits .and .u64 (a0 : Int) 9223372036854775808 != 0) = false := by rw [ha]; rfl
      have ho' : Go.bits .or .u64 (a0 : Int) 9223372036854775808 = r := by rw [ho, ← hr]; rfl
      clear ha ho hr h hs hlt
      go_enter Tryd.func39, Tryd.ntmps39
      go_wp2
      go_ret
      exact ⟨rfl, Drawn0.refl _⟩
    · rw [if_neg hs] at ha hr
      have hb : (Go.bits .and .u64 (a0 : Int) 9223372036854775808 != 0) = true := by rw [ha]; rfl
      have hx : Go.bits .xor .u64 IntKind.u64.max (a0 : Int) = r := by rw [xor63 a0 hlt, hr]
      have hu : IntKind.u64.signed = false := rfl
      clear ha h hs hr hlt
      go_enter Tryd.func39, Tryd.ntmps39
      go_wp2
      go_ret
      exact ⟨rfl, Drawn0.refl _⟩
  · cases h
def rialtoref1_Order.f (a0 : Nat) : Option (Int) := if a0 < 18446744073709551616 then some (if a0 < 9223372036854775808 then a0 + 9223372036854775808 else 18446744073709551615 - a0) else none
set_option maxRecDepth 100000 in
theorem rialtoref1_Order.calls (a0 : Nat) (r : Int) (w : World) (h : rialtoref1_Order.f a0 = some r) :
    Calls Tryd.prog 74 #[.float .f64 a0] w fun e w' => e = .returned (.int .u64 r) ∧ Drawn0 w w' := by
  unfold rialtoref1_Order.f at h
  split at h
  · rename_i hlt
    have hr := Option.some.inj h
    have k23 := gv23 a0
    have hu : IntKind.u64.signed = false := rfl
    by_cases hs : a0 < 9223372036854775808
    · rw [if_pos hs] at hr
      have ho := or63 a0 hs
      have hb : ((a0 : Int) / 9223372036854775808 == 0) = true := by simp; omega
      have ho' : Go.bits .or .u64 (a0 : Int) 9223372036854775808 = r := by rw [ho, ← hr]; rfl
      clear ho hr h hs hlt
      go_enter Tryd.func74, Tryd.ntmps74
      go_wp2
      go_ret
      exact ⟨rfl, Drawn0.refl _⟩
    · rw [if_neg hs] at hr
      have hb : ((a0 : Int) / 9223372036854775808 == 0) = false := by simp; omega
      have hx : Go.bits .xor .u64 IntKind.u64.max (a0 : Int) = r := by rw [xor63 a0 hlt, hr]
      clear h hs hr hlt
      go_enter Tryd.func74, Tryd.ntmps74
      go_wp2
      go_ret
      exact ⟨rfl, Drawn0.refl _⟩
  · cases h
end Go.Proofs.YtpjfhdbkkomogaaDoor.Gvn
namespace Go.Proofs.YtpjfhdbkkomogaaDoor.Px
open Go.RowKit Go.Proofs.YtpjfhdbkkomogaaDoor.Gvn Go.Proofs.YtpjfhdbkkomogaaDoorW.PrintWords Go.Proofs.YtpjfhdbkkomogaaDoorW.PrintLast Go.Proofs.YtpjfhdbkkomogaaDoorW.PrintMore
attribute [local go_sem] run_store_float min2_int min_two
set_option linter.unusedVariables false
set_option linter.unusedSimpArgs false
def errW : Option Int → Value
 | none => .nilIface
 | some c => .iface 120 (.int .i64 c)
theorem errW_none : errW none = .nilIface := rfl
theorem errW_some (c : Int) : errW (some c) = .iface 120 (.int .i64 c) := rfl
theorem info5 : (Tryd.prog.info? 5).map (fun i => (i.zero, i.size, i.bytes)) = some (some (.int .u8 0), 1, 1) := by kernel_rfl
theorem info9 : (Tryd.prog.info? 9).map (fun i => (i.zero, i.size, i.bytes)) = some (some (.string ⟨#[]⟩), 1, 16) := by kernel_rfl
theorem info24 : (Tryd.prog.info? 24).map (fun i => (i.zero, i.size, i.bytes)) = some (some (.agg #[(.int .i64 0), (.int .i64 0), (.string ⟨#[]⟩), (.float .f64 0)]), 4, 40) := by kernel_rfl
theorem run23 (b : Nat) (w : World) : (callFunc 23 #[.float .f64 b]).run Tryd.prog w = .ok (.value (.int .u64 b)) w := by kernel_rfl
theorem run22 (b : Int) (w : World) : (callFunc 22 #[.int .u64 b]).run Tryd.prog w = .ok (.value (.float .f64 b.toNat)) w := by kernel_rfl
structure S24 where
 f0 : Int
 f1 : Int
 f2 : ByteArray
 f3 : Nat
def z24 : S24 := ⟨(0 : Int), (0 : Int), (⟨#[]⟩ : ByteArray), (0 : Nat)⟩
def k24 : Kd S24 := Kd.iso (Kd.pair (Kd.int .i64) (Kd.pair (Kd.int .i64) (Kd.pair Kd.string (Kd.scalar (Value.float .f64) (fun _ => rfl))))) (fun x : S24 => (x.f0, x.f1, x.f2, x.f3))
theorem k24_open {w : World} {x : S24} {cs : List Value} (h : k24.K w x cs) : cs = [.int .i64 x.f0, .int .i64 x.f1, .string x.f2, .float .f64 x.f3] := by
 obtain ⟨_, _, rfl, rfl, ⟨_, _, rfl, rfl, ⟨_, _, rfl, rfl, rfl⟩⟩⟩ := h
 exact rfl
theorem k24_mk (w : World) (x : S24)  : k24.K w x [.int .i64 x.f0, .int .i64 x.f1, .string x.f2, .float .f64 x.f3] := ⟨[.int .i64 x.f0], [.int .i64 x.f1, .string x.f2, .float .f64 x.f3], rfl, rfl, ⟨[.int .i64 x.f1], [.string x.f2, .float .f64 x.f3], rfl, rfl, ⟨[.string x.f2], [.float .f64 x.f3], rfl, rfl, rfl⟩⟩⟩
theorem k24_mkM (w : World) (base : Nat) (ok : Nat → Prop) (x : S24)  : k24.M w base ok x [.int .i64 x.f0, .int .i64 x.f1, .string x.f2, .float .f64 x.f3] := ⟨[.int .i64 x.f0], [.int .i64 x.f1, .string x.f2, .float .f64 x.f3], rfl, rfl, ⟨[.int .i64 x.f1], [.string x.f2, .float .f64 x.f3], rfl, rfl, ⟨[.string x.f2], [.float .f64 x.f3], rfl, rfl, rfl⟩⟩⟩
def rd_T24 (xs : List S24) (i : Int) : S24 := xs.getD i.toNat z24
theorem at_T24 {w : World} {A : Option Addr} {n : Nat} {xs : List S24} (h : Kd.C k24 w A n xs) (i : Int) (h0 : 0 ≤ i) (h1 : i < n) : ∃ ad , A = some ad ∧ w.cell? (ad.add (i.toNat * 4)) = some (.int .i64 (rd_T24 xs i).f0) ∧ w.cell? ⟨(ad.add (i.toNat * 4)).block, (ad.add (i.toNat * 4)).off + 1, none⟩ = some (.int .i64 (rd_T24 xs i).f1) ∧ w.cell? ⟨(ad.add (i.toNat * 4)).block, (ad.add (i.toNat * 4)).off + 2, none⟩ = some (.string (rd_T24 xs i).f2) ∧ w.cell? ⟨(ad.add (i.toNat * 4)).block, (ad.add (i.toNat * 4)).off + 3, none⟩ = some (.float .f64 (rd_T24 xs i).f3) := by
 obtain ⟨ad, c, e, _, hK, hc0⟩ := Kd.C_get h z24 i h0 h1
 have hc : ∀ j u, c[j]? = some u → w.cell? (ad.add (i.toNat * 4 + j)) = some u := hc0
 obtain rfl := k24_open hK
 exact ⟨ad, e, hc 0 _ rfl, by rw [← add_field _ _ 1 (by omega)]; exact hc 1 _ rfl, by rw [← add_field _ _ 2 (by omega)]; exact hc 2 _ rfl, by rw [← add_field _ _ 3 (by omega)]; exact hc 3 _ rfl⟩
def text_hexed.l0 : Nat → ByteArray → List Int → Int → Int → Option (ByteArray)
 | 0, _, _, _, _ => none
 | k + 1, x0, x3, x6, x7 => if x7 < x6 then (if 0 ≤ x7 then (if x7 < (x0.size : Int) then (if 0 ≤ ((bt x0 x7) / 16) then (if ((bt x0 x7) / 16) < 16 then (if 0 ≤ (Go.bits .and .u8 (bt x0 x7) 15) then (if (Go.bits .and .u8 (bt x0 x7) 15) < 16 then ((some (([bt (⟨#[48, 49, 50, 51, 52, 53, 54, 55, 56, 57, 97, 98, 99, 100, 101, 102]⟩ : ByteArray) ((bt x0 x7) / 16), bt (⟨#[48, 49, 50, 51, 52, 53, 54, 55, 56, 57, 97, 98, 99, 100, 101, 102]⟩ : ByteArray) (Go.bits .and .u8 (bt x0 x7) 15)] : List Int) : List Int)).bind fun y120 => (if x3.length + y120.length < 140737488355328 then (text_hexed.l0 k x0 (x3 ++ y120) x6 (wrap64 (x7 + 1))) else (none))) else (none)) else (none)) else (none)) else (none)) else (none)) else (none)) else (some (strOfNums x3))
def text_hexed.f (k : Nat) (a0 : ByteArray) : Option (ByteArray) := text_hexed.l0 k a0 ([] : List Int) (a0.size : Int) 0
def text_hexed.T5 : Bool × List (List Nat × List Nat) := (true, [([], []), ([], []), ([], []), ([1, 2], [1, 2]), ([3], [3]), ([4], [4]), ([], []), ([], []), ([6, 7], [6, 7]), ([8], [8]), ([9], [9]), ([5, 10], [5, 10]), ([0, 11], [0, 11]), ([12, 12, 0, 1, 2, 3, 4, 5, 6, 7, 8, 9, 10, 11, 12], [0, 12])])
def text_hexed.B5 : List Nat := [0, 0, 0, 6, 14, 30, 0, 0, 192, 448, 960, 2046, 4095, 8191]
theorem text_hexed.tab5 : rtab .any (opsOf Tryd.f28 5) = text_hexed.T5 := by kernel_rfl
theorem text_hexed.bits5 : waitsOk text_hexed.T5.2 text_hexed.B5 = true := by kernel_rfl
set_option maxHeartbeats 8000000 in
set_option maxRecDepth 100000 in
theorem text_hexed.calls (k : Nat) (a0 : ByteArray) (r : ByteArray) (w : World) (h : text_hexed.f k a0 = some r) :
  Calls Tryd.prog 28 #[.string a0] w fun e w' => e = .returned (.string r) ∧ Below w.heap.size w w' := by
 have HB := Aside0.mk (Below.refl w.heap.size w)
 have H : (text_hexed.l0 k a0 ([] : List Int) (a0.size : Int) 0) = some r := h
 clear h
 have H' := Aside0.mk H
 clear H
 have k23 := run23
 have k22 := run22
 go_enter Tryd.func28, Tryd.ntmps28
 go_wp2
 go_loopg [3, 7] k (fun kq v3 v7 w' => ∃ (x3_1 : List Int) (x7_1 : Int), v7 = .int .i64 x7_1 ∧ Aside0 (text_hexed.l0 kq a0 x3_1 (a0.size : Int) x7_1 = some r) ∧ Aside0 (kq ≤ k) ∧ Aside0 (Kd.R (Kd.int .u8) 5 w' w.heap.size (fun _ => True) v3 x3_1) ∧ Aside0 (Below w.heap.size w w'))
 case atStart => exact ⟨(([] : List Int)), (0), (by first | rfl | (simp; done) | (simp [*]; done)), H', ⟨Nat.le_refl _⟩, ⟨by first | exact Kd.R_nil _ _ _ _ _ | exact Kd.N_nil _ _ _ _ _ | exact Kd.V_nil _ _ _ _ _ | exact Kd.Q_nil _ _ _ _ _ | exact Kd.S_nil _ _ _ _ _⟩, ⟨by repeat (first | (with_reducible first | exact HB.out | apply below_alloc | apply pw_below_drewN | apply below_drew1) | exact HB.out)⟩⟩
 case round =>
  clear H'
  obtain ⟨x3_1, x7_1, rfl, HA, HK1, HO_3, HB⟩ := hrel
  cases gk with
  | zero => exact absurd HA.out (by simp [text_hexed.l0])
  | succ k1 =>
   have H := HA.out
   clear HA
   simp only [text_hexed.l0] at H
   by_cases c2 : x7_1 < (a0.size : Int)
   ·rw [if_pos c2] at H
    have c2b0 : decide (x7_1 < (a0.size : Int)) = true := decide_eq_true c2
    clear c2
    by_cases c3 : 0 ≤ x7_1
    ·rw [if_pos c3] at H
     have c3b0 : decide (0 ≤ x7_1) = true := decide_eq_true c3
     clear c3
     by_cases c4 : x7_1 < (a0.size : Int)
     ·rw [if_pos c4] at H
      have c4b0 : decide (x7_1 < (a0.size : Int)) = true := decide_eq_true c4
      clear c4
      obtain ⟨ji6, hji6⟩ : ∃ j_ : Int, ((bt a0 x7_1) / 16) = j_ := ⟨_, rfl⟩
      replace H : (if 0 ≤ (ji6) then (if (ji6) < 16 then (if 0 ≤ (Go.bits .and .u8 (bt a0 x7_1) 15) then (if (Go.bits .and .u8 (bt a0 x7_1) 15) < 16 then ((some (([bt (⟨#[48, 49, 50, 51, 52, 53, 54, 55, 56, 57, 97, 98, 99, 100, 101, 102]⟩ : ByteArray) (ji6), bt (⟨#[48, 49, 50, 51, 52, 53, 54, 55, 56, 57, 97, 98, 99, 100, 101, 102]⟩ : ByteArray) (Go.bits .and .u8 (bt a0 x7_1) 15)] : List Int) : List Int)).bind fun y120 => (if x3_1.length + y120.length < 140737488355328 then (text_hexed.l0 k1 a0 (x3_1 ++ y120) (a0.size : Int) (wrap64 (x7_1 + 1))) else (none))) else (none)) else (none)) else (none)) else (none)) = some r := by first | (rw [hji6] at H; exact H) | (simp only [hji6] at H ⊢; exact H)
      by_cases c7 : 0 ≤ (ji6)
      ·rw [if_pos c7] at H
       have c7b0 : decide (0 ≤ (ji6)) = true := decide_eq_true c7
       clear c7
       by_cases c8 : (ji6) < 16
       ·rw [if_pos c8] at H
        have c8b0 : decide ((ji6) < 16) = true := decide_eq_true c8
        clear c8
        by_cases c11 : 0 ≤ (Go.bits .and .u8 (bt a0 x7_1) 15)
        ·rw [if_pos c11] at H
         have c11b0 : decide (0 ≤ (Go.bits .and .u8 (bt a0 x7_1) 15)) = true := decide_eq_true c11
         clear c11
         by_cases c12 : (Go.bits .and .u8 (bt a0 x7_1) 15) < 16
         ·rw [if_pos c12] at H
          have c12b0 : decide ((Go.bits .and .u8 (bt a0 x7_1) 15) < 16) = true := decide_eq_true c12
          clear c12
          obtain ⟨y120, hy120⟩ : ∃ y_ : List Int, y_ = (([bt (⟨#[48, 49, 50, 51, 52, 53, 54, 55, 56, 57, 97, 98, 99, 100, 101, 102]⟩ : ByteArray) (ji6), bt (⟨#[48, 49, 50, 51, 52, 53, 54, 55, 56, 57, 97, 98, 99, 100, 101, 102]⟩ : ByteArray) (Go.bits .and .u8 (bt a0 x7_1) 15)] : List Int)) := ⟨_, rfl⟩
          replace H : (if x3_1.length + y120.length < 140737488355328 then (text_hexed.l0 k1 a0 (x3_1 ++ y120) (a0.size : Int) (wrap64 (x7_1 + 1))) else (none)) = some r := by first | (rw [hy120]; with_reducible exact H) | (have H2_ := (Option.bind_some _ _).symm.trans H; rw [hy120]; with_reducible exact H2_) | (have H2_ := (Option.bind_some _ _).symm.trans H; with_reducible exact H2_) | with_reducible exact H | (rw [hy120]; exact H) | exact H
          have Ny120 := Aside0.mk hy120
          clear hy120
          by_cases c14 : x3_1.length + y120.length < 140737488355328
          ·rw [if_pos c14] at H
           have LMc14 := Aside0.mk c14
           clear c14
           obtain ⟨y123, hy123⟩ : ∃ y_ : List Int, y_ = (x3_1 ++ y120) := ⟨_, rfl⟩
           replace H : (text_hexed.l0 k1 a0 y123 (a0.size : Int) (wrap64 (x7_1 + 1))) = some r := by first | (rw [hy123]; with_reducible exact H) | (have H2_ := (Option.bind_some _ _).symm.trans H; rw [hy123]; with_reducible exact H2_) | (have H2_ := (Option.bind_some _ _).symm.trans H; with_reducible exact H2_) | with_reducible exact H | (rw [hy123]; exact H) | exact H
           have Ny123 := Aside0.mk hy123
           clear hy123
           have H' := Aside0.mk H
           clear H
           try go_wp2
           have n0_ := Aside0.mk (Kd.R_drew HO_3.out)
           have n1_ := Aside0.mk (below_drew1 HB.out)
           clear HO_3
           clear HB
           have HO_3 := n0_
           have HB := n1_
           clear n0_ n1_
           have p5 : 0 ≤ (x7_1 : Int) := of_decide_eq_true (by first | (with_reducible assumption) | assumption)
           have q5 : x7_1 < (a0.size : Int) := of_decide_eq_true (by first | (with_reducible assumption) | assumption)
           have hx5 := bt_at a0 x7_1
           replace p5 := eq_true p5
           replace q5 := eq_true q5
           have p9 : 0 ≤ ((ji6) : Int) := of_decide_eq_true (by first | (with_reducible assumption) | assumption)
           have q9 : (ji6) < (16 : Int) := of_decide_eq_true (by first | (with_reducible assumption) | assumption)
           have hx9 := bt_at (⟨#[48, 49, 50, 51, 52, 53, 54, 55, 56, 57, 97, 98, 99, 100, 101, 102]⟩ : ByteArray) (ji6)
           replace p9 := eq_true p9
           replace q9 := eq_true q9
           have p10 : 0 ≤ (x7_1 : Int) := of_decide_eq_true (by first | (with_reducible assumption) | assumption)
           have q10 : x7_1 < (a0.size : Int) := of_decide_eq_true (by first | (with_reducible assumption) | assumption)
           have hx10 := bt_at a0 x7_1
           replace p10 := eq_true p10
           replace q10 := eq_true q10
           have p13 : 0 ≤ ((Go.bits .and .u8 (bt a0 x7_1) 15) : Int) := of_decide_eq_true (by first | (with_reducible assumption) | assumption)
           have q13 : (Go.bits .and .u8 (bt a0 x7_1) 15) < (16 : Int) := of_decide_eq_true (by first | (with_reducible assumption) | assumption)
           have hx13 := bt_at (⟨#[48, 49, 50, 51, 52, 53, 54, 55, 56, 57, 97, 98, 99, 100, 101, 102]⟩ : ByteArray) (Go.bits .and .u8 (bt a0 x7_1) 15)
           replace p13 := eq_true p13
           replace q13 := eq_true q13
           refine start_ (n := 14) (S := fun w' => True) (ds := []) #[false, false, false, false, false, false, false, false, false, false, false, false, false, false] (by kernel_rfl) rfl rfl trivial (fun hHeld => ?_); refine with_tabW text_hexed.tab5 text_hexed.bits5 (fun HT_ HW_ => ?_)
           generalize wr.drew = w15 at HO_3 HB hHeld ⊢
           refine pure_ (i := 0) (N := some 10) (v := ?_) (a' := ?_) #[true, false, false, false, false, false, false, false, false, false, false, false, false, false] rfl rfl (any_of HT_.out (by kernel_rfl)) (fun _ _ _ h => h) (Or.inl ⟨by rfl, ?_⟩) ?_ ?_
           rotate_left
           ·intro w'
            go_simp
            with_reducible rfl
           rotate_left
           ·simp only [Act.put, List.setIfInBounds_toArray, List.set_cons_zero, List.set_cons_succ, i64_w, i32_w]
            rfl
           refine pure_ (i := 1) (N := some 11) (v := ?_) (a' := ?_) #[true, true, false, false, false, false, false, false, false, false, false, false, false, false] rfl rfl (any_of HT_.out (by kernel_rfl)) (fun _ _ _ h => h) (Or.inl ⟨by rfl, ?_⟩) ?_ ?_
           rotate_left
           ·intro w'
            go_simp
            with_reducible rfl
           rotate_left
           ·simp only [Act.put, List.setIfInBounds_toArray, List.set_cons_zero, List.set_cons_succ, i64_w, i32_w]
            rfl
           refine pure_ (i := 2) (N := some 12) (v := ?_) (a' := ?_) #[true, true, true, false, false, false, false, false, false, false, false, false, false, false] rfl rfl (any_of HT_.out (by kernel_rfl)) (fun _ _ _ h => h) (Or.inl ⟨by rfl, ?_⟩) ?_ ?_
           rotate_left
           ·intro w'
            go_simp
            with_reducible rfl
           rotate_left
           ·simp only [Act.put, List.setIfInBounds_toArray, List.set_cons_zero, List.set_cons_succ, i64_w, i32_w]
            rfl
           refine pure_ (i := 6) (N := some 16) (v := ?_) (a' := ?_) #[true, true, true, false, false, false, true, false, false, false, false, false, false, false] rfl rfl (any_of HT_.out (by kernel_rfl)) (fun _ _ _ h => h) (Or.inl ⟨by rfl, ?_⟩) ?_ ?_
           rotate_left
           ·intro w'
            go_simp
            with_reducible rfl
           rotate_left
           ·simp only [Act.put, List.setIfInBounds_toArray, List.set_cons_zero, List.set_cons_succ, i64_w, i32_w]
            rfl
           refine pure_ (i := 7) (N := some 17) (v := ?_) (a' := ?_) #[true, true, true, false, false, false, true, true, false, false, false, false, false, false] rfl rfl (any_of HT_.out (by kernel_rfl)) (fun _ _ _ h => h) (Or.inl ⟨by rfl, ?_⟩) ?_ ?_
           rotate_left
           ·intro w'
            go_simp
            with_reducible rfl
           rotate_left
           ·simp only [Act.put, List.setIfInBounds_toArray, List.set_cons_zero, List.set_cons_succ, i64_w, i32_w]
            rfl
           refine take_ (i := 3) (N := some 13) (v := ?_) (a' := ?_) #[true, true, true, true, false, false, true, true, false, false, false, false, false, false] rfl rfl (take_ofW HT_.out HW_.out (by kernel_rfl)) (fun _ _ _ h => h) (Or.inl ⟨by rfl, ?_⟩) hHeld ?_ ?_
           rotate_left
           ·intro w' _
            go_simp
            with_reducible rfl
           rotate_left
           ·simp only [Act.put, List.setIfInBounds_toArray, List.set_cons_zero, List.set_cons_succ, i64_w, i32_w]
            rfl
           refine pure_ (i := 4) (N := some 14) (v := ?_) (a' := ?_) #[true, true, true, true, true, false, true, true, false, false, false, false, false, false] rfl rfl (any_of HT_.out (by kernel_rfl)) (fun _ _ _ h => h) (Or.inl ⟨by rfl, ?_⟩) ?_ ?_
           rotate_left
           ·intro w'
            go_simp
            with_reducible rfl
           rotate_left
           ·simp only [Act.put, List.setIfInBounds_toArray, List.set_cons_zero, List.set_cons_succ, i64_w, i32_w]
            rfl
           refine take_ (i := 5) (N := some 15) (v := ?_) (a' := ?_) #[true, true, true, true, true, true, true, true, false, false, false, false, false, false] rfl rfl (take_ofW HT_.out HW_.out (by kernel_rfl)) (fun _ _ _ h => h) (Or.inl ⟨by rfl, ?_⟩) hHeld ?_ ?_
           rotate_left
           ·intro w' _
            go_simp
            with_reducible rfl
           rotate_left
           ·simp only [Act.put, List.setIfInBounds_toArray, List.set_cons_zero, List.set_cons_succ, i64_w, i32_w]
            rfl
           refine take_ (i := 8) (N := some 18) (v := ?_) (a' := ?_) #[true, true, true, true, true, true, true, true, true, false, false, false, false, false] rfl rfl (take_ofW HT_.out HW_.out (by kernel_rfl)) (fun _ _ _ h => h) (Or.inl ⟨by rfl, ?_⟩) hHeld ?_ ?_
           rotate_left
           ·intro w' _
            go_simp
            with_reducible rfl
           rotate_left
           ·simp only [Act.put, List.setIfInBounds_toArray, List.set_cons_zero, List.set_cons_succ, i64_w, i32_w]
            rfl
           refine pure_ (i := 9) (N := some 19) (v := ?_) (a' := ?_) #[true, true, true, true, true, true, true, true, true, true, false, false, false, false] rfl rfl (any_of HT_.out (by kernel_rfl)) (fun _ _ _ h => h) (Or.inl ⟨by rfl, ?_⟩) ?_ ?_
           rotate_left
           ·intro w'
            go_simp
            with_reducible rfl
           rotate_left
           ·simp only [Act.put, List.setIfInBounds_toArray, List.set_cons_zero, List.set_cons_succ, i64_w, i32_w]
            rfl
           refine take_ (i := 10) (N := some 20) (v := ?_) (a' := ?_) #[true, true, true, true, true, true, true, true, true, true, true, false, false, false] rfl rfl (take_ofW HT_.out HW_.out (by kernel_rfl)) (fun _ _ _ h => h) (Or.inl ⟨by rfl, ?_⟩) hHeld ?_ ?_
           rotate_left
           ·intro w' _
            go_simp
            with_reducible rfl
           rotate_left
           ·simp only [Act.put, List.setIfInBounds_toArray, List.set_cons_zero, List.set_cons_succ, i64_w, i32_w]
            rfl
           refine one_ (i := 11) (N := some 21) #[true, true, true, true, true, true, true, true, true, true, true, true, false, false] rfl rfl (one_of HT_.out (by kernel_rfl)) (by decide) (fun K hK => ?_)
           refine Kd.R_lit_step (Kd.int .u8) _ 5 ?hg (N := 21) ?hd (xs := ([bt (⟨#[48, 49, 50, 51, 52, 53, 54, 55, 56, 57, 97, 98, 99, 100, 101, 102]⟩ : ByteArray) (ji6), bt (⟨#[48, 49, 50, 51, 52, 53, 54, 55, 56, 57, 97, 98, 99, 100, 101, 102]⟩ : ByteArray) (Go.bits .and .u8 (bt a0 x7_1) 15)] : List Int)) (inner := [.int .u8 (bt (⟨#[48, 49, 50, 51, 52, 53, 54, 55, 56, 57, 97, 98, 99, 100, 101, 102]⟩ : ByteArray) (ji6)), .int .u8 (bt (⟨#[48, 49, 50, 51, 52, 53, 54, 55, 56, 57, 97, 98, 99, 100, 101, 102]⟩ : ByteArray) (Go.bits .and .u8 (bt a0 x7_1) 15))]) (ok := fun _ => True) (okp := fun _ => True) ?hr ?hp (fun _ hk => hk) trivial (Below.refl _ _) (Nat.le_refl _) (by simp) ?_; (case hd => rfl); (case hg => rfl); (case hr => first | (go_simp; done) | (go_simp; rfl)); (case hp => exact (Reps.one (show Kd.M (Kd.int .u8) _ _ _ (bt (⟨#[48, 49, 50, 51, 52, 53, 54, 55, 56, 57, 97, 98, 99, 100, 101, 102]⟩ : ByteArray) (ji6)) [.int .u8 (bt (⟨#[48, 49, 50, 51, 52, 53, 54, 55, 56, 57, 97, 98, 99, 100, 101, 102]⟩ : ByteArray) (ji6))] from rfl) (Reps.one (show Kd.M (Kd.int .u8) _ _ _ (bt (⟨#[48, 49, 50, 51, 52, 53, 54, 55, 56, 57, 97, 98, 99, 100, 101, 102]⟩ : ByteArray) (Go.bits .and .u8 (bt a0 x7_1) 15)) [.int .u8 (bt (⟨#[48, 49, 50, 51, 52, 53, 54, 55, 56, 57, 97, 98, 99, 100, 101, 102]⟩ : ByteArray) (Go.bits .and .u8 (bt a0 x7_1) 15))] from rfl) (Reps.none _ _))))
           intro v121 w16 ho17 hb hg_ hnew_
           clear hg_ hnew_
           (first | rw [← Ny120.out] at ho17 | (simp only [Int.reduceToNat] at ho17; rw [← Ny120.out] at ho17))
           have n0_ := Aside0.mk (Kd.R_elder' (by (with_reducible repeat (first | apply Kd.R_alloc | apply Kd.R_drewN | apply Kd.R_drew)); exact HO_3.out) (Kd.R_base ho17) hb)
           have n1_ := Aside0.mk (Kd.R_lower (Kd.R_new' ho17 (Kd.R_lt (by (with_reducible repeat (first | apply Kd.R_alloc | apply Kd.R_drewN | apply Kd.R_drew)); exact HO_3.out))) (below_size (by repeat (first | (with_reducible first | exact HB.out | apply below_alloc | apply pw_below_drewN | apply below_drew1) | exact HB.out))))
           have n2_ := Aside0.mk (below_step (by repeat (first | (with_reducible first | exact HB.out | apply below_alloc | apply pw_below_drewN | apply below_drew1) | exact HB.out)) hb)
           clear HO_3
           clear HB
           have HO_3 := n0_
           have HO122 := n1_
           have HB := n2_
           clear n0_ n1_ n2_
           clear hb ho17
           obtain ⟨Ao19, co19, eo19⟩ := Kd.R_slice HO122.out
           (first | subst eo19 | (injection eo19 with f1_ f2_ f3_; have f4_ := f1_.symm; have f5_ := f3_.symm; clear f1_ f2_ f3_; subst f4_; subst f5_))
           refine hK.out _ _ trivial (fun hHeld => ?_)
           clear hK K
           refine norm_ (a' := ?_) ?_ ?_
           rotate_left
           ·show Act.put _ (some 21) _ = _
            simp only [Act.put, List.setIfInBounds_toArray, List.set_cons_zero, List.set_cons_succ, i64_w, i32_w]
            rfl
           refine one_ (i := 12) (N := some 22) #[true, true, true, true, true, true, true, true, true, true, true, true, true, false] rfl rfl (one_of HT_.out (by kernel_rfl)) (by decide) (fun K hK => ?_)
           refine Kd.R_append_rows_step (Kd.int .u8) (w0 := w) w.heap.size (by rfl) (.tmp 10) (.tmp 21) 57 5 (.int .u8 0) 1 rfl Tryd.underlying57 info5 rfl (by decide) (by omega) u3 x3_1 y120 _ _ _ (fun k_ => some k_ ≠ (.slice Ao19 y120.length co19 : Value).ownBlock) (fun _ => False) rfl rfl ?aO ?aR (fun _ _ h => h) (fun _ h => h.elim) ?aF ?aB ?aS ?aL ?_
           (case aR => repeat (first | exact (Kd.R_reads' HO122.out).2.2 | (with_reducible refine Kd.C_alloc ?_ _) | (with_reducible refine Kd.C_drewN ?_ _) | (with_reducible refine Kd.C_drew ?_)))
           (case aB => exact (by repeat (first | (with_reducible first | exact HB.out | apply below_alloc | apply pw_below_drewN | apply below_drew1) | exact HB.out)))
           (case aF => exact (fun k_ hk => Kd.fresh' (Kd.R_lt (by (with_reducible repeat (first | apply Kd.R_alloc | apply Kd.R_drewN | apply Kd.R_drew)); exact HO122.out)) k_ hk))
           (case aO => exact (by (with_reducible repeat (first | apply Kd.R_alloc | apply Kd.R_drewN | apply Kd.R_drew)); exact Kd.R_mono HO_3.out (fun _ hk => hk.2)))
           (case aS => exact (below_size (by repeat (first | (with_reducible first | exact HB.out | apply below_alloc | apply pw_below_drewN | apply below_drew1) | exact HB.out))))
           (case aL => have := LMc14.out; omega)
           intro v124 w18 ho hb hg hat
           rw [← Ny123.out] at ho
           have n0_ := Aside0.mk (Kd.R_after (ok := (fun _ => True)) (by (with_reducible repeat (first | apply Kd.R_alloc | apply Kd.R_drewN | apply Kd.R_drew)); exact HO122.out) hg hat)
           have n1_ := Aside0.mk (hb)
           have n2_ := Aside0.mk (ho)
           clear HO122
           clear HB
           clear HO_3
           have HO122 := n0_
           have HB := n1_
           have HO125 := n2_
           clear n0_ n1_ n2_
           clear ho hb hg hat
           refine hK.out _ _ trivial (fun hHeld => ?_)
           clear hK K
           refine norm_ (a' := ?_) ?_ ?_
           rotate_left
           ·show Act.put _ (some 22) _ = _
            simp only [Act.put, List.setIfInBounds_toArray, List.set_cons_zero, List.set_cons_succ, i64_w, i32_w]
            rfl
           refine pure_ (i := 13) (N := some 3) (v := ?_) (a' := ?_) #[true, true, true, true, true, true, true, true, true, true, true, true, true, true] rfl rfl (any_of HT_.out (by kernel_rfl)) (fun _ _ _ h => h) (Or.inl ⟨by rfl, ?_⟩) ?_ ?_
           rotate_left
           ·intro w'
            go_simp
            with_reducible rfl
           rotate_left
           ·simp only [Act.put, List.setIfInBounds_toArray, List.set_cons_zero, List.set_cons_succ, i64_w, i32_w]
            rfl
           refine done_ (done_of HT_.out (by kernel_rfl)) ?_
           try go_wp2
           go_roundg k1
           case measure => have := HK1.out; omega
           case rel => exact ⟨(y123), (wrap64 (x7_1 + 1)), (by first | rfl | (simp; done) | (simp [*]; done)), H', ⟨by have := HK1.out; omega⟩, ⟨by (with_reducible repeat (first | apply Kd.R_alloc | apply Kd.R_drewN | apply Kd.R_drew)); exact Kd.R_mono HO125.out (fun _ hk => trivial)⟩, ⟨by repeat (first | (with_reducible first | exact HB.out | apply below_alloc | apply pw_below_drewN | apply below_drew1) | exact HB.out)⟩⟩
          ·rw [if_neg c14] at H
           exact absurd H (by simp)
         ·rw [if_neg c12] at H
          exact absurd H (by simp)
        ·rw [if_neg c11] at H
         exact absurd H (by simp)
       ·rw [if_neg c8] at H
        exact absurd H (by simp)
      ·rw [if_neg c7] at H
       exact absurd H (by simp)
     ·rw [if_neg c4] at H
      exact absurd H (by simp)
    ·rw [if_neg c3] at H
     exact absurd H (by simp)
   ·rw [if_neg c2] at H
    have c2b0 : decide (x7_1 < (a0.size : Int)) = false := decide_eq_false c2
    clear c2
    obtain rfl := Option.some.inj H
    have hcv20 := own_string (P := Tryd.prog) Tryd.underlying57 Tryd.underlying5 Tryd.underlying9 (Kd.own_of_R HO_3.out)
    go_wp2
    go_ret
    exact ⟨by first | rfl | (simp [errW_none, errW_some] <;> rfl) | (simp [*, errW_none, errW_some] <;> rfl), by repeat (first | (with_reducible first | exact HB.out | apply below_alloc | apply pw_below_drewN | apply below_drew1) | exact HB.out)⟩
mutual
def text_quoted.l0 : Nat → ByteArray → ByteArray → Int → Int → Option (ByteArray)
 | 0, _, _, _, _ => none
 | k + 1, x0, x3, x7, x8 => if x8 < x7 then (if 0 ≤ x8 then (if x8 < (x0.size : Int) then (if (bt x0 x8) = 34 then (text_quoted.j1 k x0 x3 x8 (bt x0 x8) x7 x8 true) else (text_quoted.j1 k x0 x3 x8 (bt x0 x8) x7 x8 ((bt x0 x8) == 92))) else (none)) else (none)) else (if x3.size + 1 ≤ 9223372036854775807 then (some (x3 ++ (⟨#[34]⟩ : ByteArray))) else (none))
def text_quoted.j1 : Nat → ByteArray → ByteArray → Int → Int → Int → Int → Bool → Option (ByteArray)
 | 0, _, _, _, _, _, _, _ => none
 | k + 1, x0, x3, x4, x5, x7, x8, x21 => if x21 = true then (if 0 ≤ x4 then (if x4 ≤ (wrap64 (x4 + 1)) then (if (wrap64 (x4 + 1)) ≤ (x0.size : Int) then (if 1 + (x0.extract (x4 : Int).toNat ((wrap64 (x4 + 1)) : Int).toNat).size ≤ 9223372036854775807 then (if x3.size + ((⟨#[92]⟩ : ByteArray) ++ (x0.extract (x4 : Int).toNat ((wrap64 (x4 + 1)) : Int).toNat)).size ≤ 9223372036854775807 then (text_quoted.l0 k x0 (x3 ++ ((⟨#[92]⟩ : ByteArray) ++ (x0.extract (x4 : Int).toNat ((wrap64 (x4 + 1)) : Int).toNat))) x7 (wrap64 (x8 + 1))) else (none)) else (none)) else (none)) else (none)) else (none)) else (if x5 < 32 then (if 0 ≤ x4 then (if x4 ≤ (wrap64 (x4 + 1)) then (if (wrap64 (x4 + 1)) ≤ (x0.size : Int) then ((text_hexed.f k (x0.extract (x4 : Int).toNat ((wrap64 (x4 + 1)) : Int).toNat)).bind fun t126 => (if 2 + t126.size ≤ 9223372036854775807 then (if x3.size + ((⟨#[92, 120]⟩ : ByteArray) ++ t126).size ≤ 9223372036854775807 then (text_quoted.l0 k x0 (x3 ++ ((⟨#[92, 120]⟩ : ByteArray) ++ t126)) x7 (wrap64 (x8 + 1))) else (none)) else (none))) else (none)) else (none)) else (none)) else (if x5 > 126 then (if 0 ≤ x4 then (if x4 ≤ (wrap64 (x4 + 1)) then (if (wrap64 (x4 + 1)) ≤ (x0.size : Int) then ((text_hexed.f k (x0.extract (x4 : Int).toNat ((wrap64 (x4 + 1)) : Int).toNat)).bind fun t127 => (if 2 + t127.size ≤ 9223372036854775807 then (if x3.size + ((⟨#[92, 120]⟩ : ByteArray) ++ t127).size ≤ 9223372036854775807 then (text_quoted.l0 k x0 (x3 ++ ((⟨#[92, 120]⟩ : ByteArray) ++ t127)) x7 (wrap64 (x8 + 1))) else (none)) else (none))) else (none)) else (none)) else (none)) else (if 0 ≤ x4 then (if x4 ≤ (wrap64 (x4 + 1)) then (if (wrap64 (x4 + 1)) ≤ (x0.size : Int) then (if x3.size + (x0.extract (x4 : Int).toNat ((wrap64 (x4 + 1)) : Int).toNat).size ≤ 9223372036854775807 then (text_quoted.l0 k x0 (x3 ++ (x0.extract (x4 : Int).toNat ((wrap64 (x4 + 1)) : Int).toNat)) x7 (wrap64 (x8 + 1))) else (none)) else (none)) else (none)) else (none))))
end
def text_quoted.f (k : Nat) (a0 : ByteArray) : Option (ByteArray) := text_quoted.l0 k a0 (⟨#[34]⟩ : ByteArray) (a0.size : Int) 0
set_option maxHeartbeats 8000000 in
set_option maxRecDepth 100000 in
theorem text_quoted.calls (k : Nat) (a0 : ByteArray) (r : ByteArray) (w : World) (h : text_quoted.f k a0 = some r) :
  Calls Tryd.prog 27 #[.string a0] w fun e w' => e = .returned (.string r) ∧ Below w.heap.size w w' := by
 have HB := Aside0.mk (Below.refl w.heap.size w)
 have H : (text_quoted.l0 k a0 (⟨#[34]⟩ : ByteArray) (a0.size : Int) 0) = some r := h
 clear h
 have H' := Aside0.mk H
 clear H
 have k23 := run23
 have k22 := run22
 go_enter Tryd.func27, Tryd.ntmps27
 go_wp2
 go_loopg [3, 8] k (fun kq v3 v8 w' => ∃ (x3_1 : ByteArray) (x8_1 : Int), v3 = .string x3_1 ∧ v8 = .int .i64 x8_1 ∧ Aside0 (text_quoted.l0 kq a0 x3_1 (a0.size : Int) x8_1 = some r) ∧ Aside0 (kq ≤ k) ∧ Aside0 (Below w.heap.size w w'))
 case atStart => exact ⟨((⟨#[34]⟩ : ByteArray)), (0), (by first | rfl | (simp; done) | (simp [*]; done)), (by first | rfl | (simp; done) | (simp [*]; done)), H', ⟨Nat.le_refl _⟩, ⟨by repeat (first | (with_reducible first | exact HB.out | apply below_alloc | apply pw_below_drewN | apply below_drew1) | exact HB.out)⟩⟩
 case round =>
  clear H'
  obtain ⟨x3_1, x8_1, rfl, rfl, HA, HK1, HB⟩ := hrel
  cases gk with
  | zero => exact absurd HA.out (by simp [text_quoted.l0])
  | succ k1 =>
   have H := HA.out
   clear HA
   simp only [text_quoted.l0] at H
   by_cases c2 : x8_1 < (a0.size : Int)
   ·rw [if_pos c2] at H
    have c2b0 : decide (x8_1 < (a0.size : Int)) = true := decide_eq_true c2
    clear c2
    by_cases c3 : 0 ≤ x8_1
    ·rw [if_pos c3] at H
     have c3b0 : decide (0 ≤ x8_1) = true := decide_eq_true c3
     clear c3
     by_cases c4 : x8_1 < (a0.size : Int)
     ·rw [if_pos c4] at H
      have c4b0 : decide (x8_1 < (a0.size : Int)) = true := decide_eq_true c4
      clear c4
      have HC6 := Aside0.mk H
      clear H
      have p5 : 0 ≤ (x8_1 : Int) := of_decide_eq_true (by first | (with_reducible assumption) | assumption)
      have q5 : x8_1 < (a0.size : Int) := of_decide_eq_true (by first | (with_reducible assumption) | assumption)
      have hx5 := bt_at a0 x8_1
      replace p5 := eq_true p5
      replace q5 := eq_true q5
      go_upto_region 7 with (fail)
      go_cut [21] (fun v21 wc => ∃ (kq : Nat) (x21_5 : Bool), v21 = .bool x21_5 ∧ Aside0 (text_quoted.j1 kq a0 x3_1 x8_1 (bt a0 x8_1) (a0.size : Int) x8_1 x21_5 = some r) ∧ Aside0 (kq ≤ k1) ∧ Aside0 (Below w.heap.size w wc))
      case first =>
       have H := HC6.out
       clear HC6
       by_cases c7 : (bt a0 x8_1) = 34
       ·rw [if_pos c7] at H
        have c7b0 : ((bt a0 x8_1) == 34) = true := beq_iff_eq.mpr c7
        have c7b1 : ((bt a0 x8_1) != 34) = false := bne_eq_false_iff_eq.mpr c7
        clear c7
        (first | rw [c7b0] | (simp only [i64_w, i32_w]; rw [c7b0]) | skip)
        have H' := Aside0.mk H
        clear H
        go_wp2
        go_meet
        case rel => exact ⟨_, (true), (by first | rfl | (simp; done) | (simp [*]; done)), H', ⟨by have := HK1.out; first | omega | exact Nat.le_refl _⟩, ⟨by repeat (first | (with_reducible first | exact HB.out | apply below_alloc | apply pw_below_drewN | apply below_drew1) | exact HB.out)⟩⟩
       ·rw [if_neg c7] at H
        have c7b0 : ((bt a0 x8_1) == 34) = false := beq_eq_false_iff_ne.mpr c7
        have c7b1 : ((bt a0 x8_1) != 34) = true := bne_iff_ne.mpr c7
        (first | rw [c7b0] | (simp only [i64_w, i32_w]; rw [c7b0]) | skip)
        have H' := Aside0.mk H
        clear H
        go_wp2
        go_meet
        case rel => exact ⟨_, (((bt a0 x8_1) == 92)), (by first | rfl | (simp; done) | (simp [*]; done)), H', ⟨by have := HK1.out; first | omega | exact Nat.le_refl _⟩, ⟨by repeat (first | (with_reducible first | exact HB.out | apply below_alloc | apply pw_below_drewN | apply below_drew1) | exact HB.out)⟩⟩
      case rest =>
       clear HC6
       try clear c2;try clear c2b0;try clear p2;try clear c3;try clear c3b0;try clear c4;try clear c4b0;try clear p5;try clear q5;try clear hx5;try clear c7;try clear c7b0;try clear c7b1;try clear p5;try clear q5
       obtain ⟨kq, x21_5, rfl, HA, HJ5, HB⟩ := hcut
       cases kq with
       | zero => exact absurd HA.out (by simp [text_quoted.j1])
       | succ kj5 =>
        have H := HA.out
        clear HA
        simp only [text_quoted.j1] at H
        by_cases c8 : x21_5 = true
        ·subst c8
         have H1 : (if 0 ≤ x8_1 then (if x8_1 ≤ (wrap64 (x8_1 + 1)) then (if (wrap64 (x8_1 + 1)) ≤ (a0.size : Int) then (if 1 + (a0.extract (x8_1 : Int).toNat ((wrap64 (x8_1 + 1)) : Int).toNat).size ≤ 9223372036854775807 then (if x3_1.size + ((⟨#[92]⟩ : ByteArray) ++ (a0.extract (x8_1 : Int).toNat ((wrap64 (x8_1 + 1)) : Int).toNat)).size ≤ 9223372036854775807 then (text_quoted.l0 kj5 a0 (x3_1 ++ ((⟨#[92]⟩ : ByteArray) ++ (a0.extract (x8_1 : Int).toNat ((wrap64 (x8_1 + 1)) : Int).toNat))) (a0.size : Int) (wrap64 (x8_1 + 1))) else (none)) else (none)) else (none)) else (none)) else (none)) = some r := by rw [if_pos rfl] at H; exact H
         clear H
         have H := H1
         clear H1
         by_cases c9 : 0 ≤ x8_1
         ·rw [if_pos c9] at H
          have c9b0 := eq_true c9
          have c9b1 : decide (0 ≤ x8_1) = true := decide_eq_true c9
          clear c9
          by_cases c10 : x8_1 ≤ (wrap64 (x8_1 + 1))
          ·rw [if_pos c10] at H
           have c10b0 := eq_true c10
           have c10b1 : decide (x8_1 ≤ (wrap64 (x8_1 + 1))) = true := decide_eq_true c10
           by_cases c11 : (wrap64 (x8_1 + 1)) ≤ (a0.size : Int)
           ·rw [if_pos c11] at H
            have c11b0 := eq_true c11
            have c11b1 : decide ((wrap64 (x8_1 + 1)) ≤ (a0.size : Int)) = true := decide_eq_true c11
            by_cases c12 : 1 + (a0.extract (x8_1 : Int).toNat ((wrap64 (x8_1 + 1)) : Int).toNat).size ≤ 9223372036854775807
            ·rw [if_pos c12] at H
             have c12b0 := eq_true c12
             have c12b1 : decide (1 + (a0.extract (x8_1 : Int).toNat ((wrap64 (x8_1 + 1)) : Int).toNat).size ≤ 9223372036854775807) = true := decide_eq_true c12
             try have c12b2 : (9223372036854775807 < 1 + (a0.extract (x8_1 : Int).toNat ((wrap64 (x8_1 + 1)) : Int).toNat).size) = False := eq_false (Nat.not_lt.2 c12)
             try (have c12b3 := c12b2; simp only [ByteArray.size_append, ByteArray.size_extract] at c12b3)
             try have c12b4 : (9223372036854775807 < 1 + (((wrap64 (x8_1 + 1)) : Int).toNat - (x8_1 : Int).toNat)) = False := eq_false (by have h_ := c12; (try simp only [ByteArray.size_append, ByteArray.size_extract] at h_); first | omega | (simp only [Nat.add_zero] at h_; omega))
             by_cases c13 : x3_1.size + ((⟨#[92]⟩ : ByteArray) ++ (a0.extract (x8_1 : Int).toNat ((wrap64 (x8_1 + 1)) : Int).toNat)).size ≤ 9223372036854775807
             ·rw [if_pos c13] at H
              have c13b0 := eq_true c13
              have c13b1 : decide (x3_1.size + ((⟨#[92]⟩ : ByteArray) ++ (a0.extract (x8_1 : Int).toNat ((wrap64 (x8_1 + 1)) : Int).toNat)).size ≤ 9223372036854775807) = true := decide_eq_true c13
              try have c13b2 : (9223372036854775807 < x3_1.size + ((⟨#[92]⟩ : ByteArray) ++ (a0.extract (x8_1 : Int).toNat ((wrap64 (x8_1 + 1)) : Int).toNat)).size) = False := eq_false (Nat.not_lt.2 c13)
              try (have c13b3 := c13b2; simp only [ByteArray.size_append, ByteArray.size_extract] at c13b3)
              try have c13b4 : (9223372036854775807 < x3_1.size + (1 + (((wrap64 (x8_1 + 1)) : Int).toNat - (x8_1 : Int).toNat))) = False := eq_false (by have h_ := c13; (try simp only [ByteArray.size_append, ByteArray.size_extract] at h_); first | omega | (simp only [show (⟨#[92]⟩ : ByteArray).size = 1 from rfl] at h_; omega))
              have H' := Aside0.mk H
              clear H
              go_wp2
              go_roundg kj5
              case measure => have := HK1.out; have := HJ5.out; omega
              case rel => exact ⟨(x3_1 ++ ((⟨#[92]⟩ : ByteArray) ++ (a0.extract (x8_1 : Int).toNat ((wrap64 (x8_1 + 1)) : Int).toNat))), (wrap64 (x8_1 + 1)), (by first | rfl | (simp; done) | (simp [*]; done)), (by first | rfl | (simp; done) | (simp [*]; done)), H', ⟨by have := HK1.out; have := HJ5.out; omega⟩, ⟨by repeat (first | (with_reducible first | exact HB.out | apply below_alloc | apply pw_below_drewN | apply below_drew1) | exact HB.out)⟩⟩
             ·rw [if_neg c13] at H
              exact absurd H (by simp)
            ·rw [if_neg c12] at H
             exact absurd H (by simp)
           ·rw [if_neg c11] at H
            exact absurd H (by simp)
          ·rw [if_neg c10] at H
           exact absurd H (by simp)
         ·rw [if_neg c9] at H
          exact absurd H (by simp)
        ·replace c8 := Bool.eq_false_iff.mpr c8
         subst c8
         have H1 : (if (bt a0 x8_1) < 32 then (if 0 ≤ x8_1 then (if x8_1 ≤ (wrap64 (x8_1 + 1)) then (if (wrap64 (x8_1 + 1)) ≤ (a0.size : Int) then ((text_hexed.f kj5 (a0.extract (x8_1 : Int).toNat ((wrap64 (x8_1 + 1)) : Int).toNat)).bind fun t126 => (if 2 + t126.size ≤ 9223372036854775807 then (if x3_1.size + ((⟨#[92, 120]⟩ : ByteArray) ++ t126).size ≤ 9223372036854775807 then (text_quoted.l0 kj5 a0 (x3_1 ++ ((⟨#[92, 120]⟩ : ByteArray) ++ t126)) (a0.size : Int) (wrap64 (x8_1 + 1))) else (none)) else (none))) else (none)) else (none)) else (none)) else (if (bt a0 x8_1) > 126 then (if 0 ≤ x8_1 then (if x8_1 ≤ (wrap64 (x8_1 + 1)) then (if (wrap64 (x8_1 + 1)) ≤ (a0.size : Int) then ((text_hexed.f kj5 (a0.extract (x8_1 : Int).toNat ((wrap64 (x8_1 + 1)) : Int).toNat)).bind fun t127 => (if 2 + t127.size ≤ 9223372036854775807 then (if x3_1.size + ((⟨#[92, 120]⟩ : ByteArray) ++ t127).size ≤ 9223372036854775807 then (text_quoted.l0 kj5 a0 (x3_1 ++ ((⟨#[92, 120]⟩ : ByteArray) ++ t127)) (a0.size : Int) (wrap64 (x8_1 + 1))) else (none)) else (none))) else (none)) else (none)) else (none)) else (if 0 ≤ x8_1 then (if x8_1 ≤ (wrap64 (x8_1 + 1)) then (if (wrap64 (x8_1 + 1)) ≤ (a0.size : Int) then (if x3_1.size + (a0.extract (x8_1 : Int).toNat ((wrap64 (x8_1 + 1)) : Int).toNat).size ≤ 9223372036854775807 then (text_quoted.l0 kj5 a0 (x3_1 ++ (a0.extract (x8_1 : Int).toNat ((wrap64 (x8_1 + 1)) : Int).toNat)) (a0.size : Int) (wrap64 (x8_1 + 1))) else (none)) else (none)) else (none)) else (none)))) = some r := by rw [if_neg (show ¬ (false = true) by decide)] at H; exact H
         clear H
         have H := H1
         clear H1
         by_cases c14 : (bt a0 x8_1) < 32
         ·rw [if_pos c14] at H
          have c14b0 : decide ((bt a0 x8_1) < 32) = true := decide_eq_true c14
          clear c14
          by_cases c15 : 0 ≤ x8_1
          ·rw [if_pos c15] at H
           have c15b0 := eq_true c15
           have c15b1 : decide (0 ≤ x8_1) = true := decide_eq_true c15
           clear c15
           by_cases c16 : x8_1 ≤ (wrap64 (x8_1 + 1))
           ·rw [if_pos c16] at H
            have c16b0 := eq_true c16
            have c16b1 : decide (x8_1 ≤ (wrap64 (x8_1 + 1))) = true := decide_eq_true c16
            by_cases c17 : (wrap64 (x8_1 + 1)) ≤ (a0.size : Int)
            ·rw [if_pos c17] at H
             have c17b0 := eq_true c17
             have c17b1 : decide ((wrap64 (x8_1 + 1)) ≤ (a0.size : Int)) = true := decide_eq_true c17
             replace H := Option.bind_eq_some_iff.mp H
             obtain ⟨t126, A180, H⟩ := H
             replace H : (if 2 + t126.size ≤ 9223372036854775807 then (if x3_1.size + ((⟨#[92, 120]⟩ : ByteArray) ++ t126).size ≤ 9223372036854775807 then (text_quoted.l0 kj5 a0 (x3_1 ++ ((⟨#[92, 120]⟩ : ByteArray) ++ t126)) (a0.size : Int) (wrap64 (x8_1 + 1))) else (none)) else (none)) = some r := H
             have A18 := Aside0.mk A180
             clear A180
             by_cases c19 : 2 + t126.size ≤ 9223372036854775807
             ·rw [if_pos c19] at H
              have c19b0 := eq_true c19
              have c19b1 : decide (2 + t126.size ≤ 9223372036854775807) = true := decide_eq_true c19
              try have c19b2 : (9223372036854775807 < 2 + t126.size) = False := eq_false (Nat.not_lt.2 c19)
              try (have c19b3 := c19b2; simp only [ByteArray.size_append, ByteArray.size_extract] at c19b3)
              try have c19b4 : (9223372036854775807 < 2 + t126.size) = False := eq_false (by have h_ := c19; (try simp only [ByteArray.size_append, ByteArray.size_extract] at h_); first | omega | (simp only [Nat.add_zero] at h_; omega))
              by_cases c20 : x3_1.size + ((⟨#[92, 120]⟩ : ByteArray) ++ t126).size ≤ 9223372036854775807
              ·rw [if_pos c20] at H
               have c20b0 := eq_true c20
               have c20b1 : decide (x3_1.size + ((⟨#[92, 120]⟩ : ByteArray) ++ t126).size ≤ 9223372036854775807) = true := decide_eq_true c20
               try have c20b2 : (9223372036854775807 < x3_1.size + ((⟨#[92, 120]⟩ : ByteArray) ++ t126).size) = False := eq_false (Nat.not_lt.2 c20)
               try (have c20b3 := c20b2; simp only [ByteArray.size_append, ByteArray.size_extract] at c20b3)
               try have c20b4 : (9223372036854775807 < x3_1.size + (2 + t126.size)) = False := eq_false (by have h_ := c20; (try simp only [ByteArray.size_append, ByteArray.size_extract] at h_); first | omega | (simp only [show (⟨#[92, 120]⟩ : ByteArray).size = 2 from rfl] at h_; omega))
               have H' := Aside0.mk H
               clear H
               go_wp2_with (first | ((with_reducible refine gate_callee (f := 28) rfl ?_); refine goesL_ (some 49) rfl rfl Tryd.func28 (by kernel_rfl) rfl #[.string (a0.extract (x8_1 : Int).toNat ((wrap64 (x8_1 + 1)) : Int).toNat)] rfl (by (try simp only [List.map_toArray, List.map_cons, List.map_nil]); first | done | rfl | (simp only [List.length_drop, List.length_take]; rfl)) ?_; (with_reducible refine (text_hexed.calls kj5 (a0.extract (x8_1 : Int).toNat ((wrap64 (x8_1 + 1)) : Int).toNat) t126 _ A18.out).mono ?_); rintro e w21 ⟨rfl, hb⟩; refine ⟨_, rfl, ?_⟩; have n0_ := Aside0.mk (below_step (by repeat (first | (with_reducible first | exact HB.out | apply below_alloc | apply pw_below_drewN | apply below_drew1) | exact HB.out)) hb); clear HB; have HB := n0_; clear n0_; (try clear hb); (try clear hb2); (try clear hk); (try clear hi)))
               go_roundg kj5
               case measure => have := HK1.out; have := HJ5.out; omega
               case rel => exact ⟨(x3_1 ++ ((⟨#[92, 120]⟩ : ByteArray) ++ t126)), (wrap64 (x8_1 + 1)), (by first | rfl | (simp; done) | (simp [*]; done)), (by first | rfl | (simp; done) | (simp [*]; done)), H', ⟨by have := HK1.out; have := HJ5.out; omega⟩, ⟨by repeat (first | (with_reducible first | exact HB.out | apply below_alloc | apply pw_below_drewN | apply below_drew1) | exact HB.out)⟩⟩
              ·rw [if_neg c20] at H
               exact absurd H (by simp)
             ·rw [if_neg c19] at H
              exact absurd H (by simp)
            ·rw [if_neg c17] at H
             exact absurd H (by simp)
           ·rw [if_neg c16] at H
            exact absurd H (by simp)
          ·rw [if_neg c15] at H
           exact absurd H (by simp)
         ·rw [if_neg c14] at H
          have c14b0 : decide ((bt a0 x8_1) < 32) = false := decide_eq_false c14
          clear c14
          by_cases c22 : (bt a0 x8_1) > 126
          ·rw [if_pos c22] at H
           have c22b0 : decide (126 < (bt a0 x8_1)) = true := decide_eq_true c22
           clear c22
           by_cases c23 : 0 ≤ x8_1
           ·rw [if_pos c23] at H
            have c23b0 := eq_true c23
            have c23b1 : decide (0 ≤ x8_1) = true := decide_eq_true c23
            clear c23
            by_cases c24 : x8_1 ≤ (wrap64 (x8_1 + 1))
            ·rw [if_pos c24] at H
             have c24b0 := eq_true c24
             have c24b1 : decide (x8_1 ≤ (wrap64 (x8_1 + 1))) = true := decide_eq_true c24
             by_cases c25 : (wrap64 (x8_1 + 1)) ≤ (a0.size : Int)
             ·rw [if_pos c25] at H
              have c25b0 := eq_true c25
              have c25b1 : decide ((wrap64 (x8_1 + 1)) ≤ (a0.size : Int)) = true := decide_eq_true c25
              replace H := Option.bind_eq_some_iff.mp H
              obtain ⟨t127, A260, H⟩ := H
              replace H : (if 2 + t127.size ≤ 9223372036854775807 then (if x3_1.size + ((⟨#[92, 120]⟩ : ByteArray) ++ t127).size ≤ 9223372036854775807 then (text_quoted.l0 kj5 a0 (x3_1 ++ ((⟨#[92, 120]⟩ : ByteArray) ++ t127)) (a0.size : Int) (wrap64 (x8_1 + 1))) else (none)) else (none)) = some r := H
              have A26 := Aside0.mk A260
              clear A260
              by_cases c27 : 2 + t127.size ≤ 9223372036854775807
              ·rw [if_pos c27] at H
               have c27b0 := eq_true c27
               have c27b1 : decide (2 + t127.size ≤ 9223372036854775807) = true := decide_eq_true c27
               try have c27b2 : (9223372036854775807 < 2 + t127.size) = False := eq_false (Nat.not_lt.2 c27)
               try (have c27b3 := c27b2; simp only [ByteArray.size_append, ByteArray.size_extract] at c27b3)
               try have c27b4 : (9223372036854775807 < 2 + t127.size) = False := eq_false (by have h_ := c27; (try simp only [ByteArray.size_append, ByteArray.size_extract] at h_); first | omega | (simp only [Nat.add_zero] at h_; omega))
               by_cases c28 : x3_1.size + ((⟨#[92, 120]⟩ : ByteArray) ++ t127).size ≤ 9223372036854775807
               ·rw [if_pos c28] at H
                have c28b0 := eq_true c28
                have c28b1 : decide (x3_1.size + ((⟨#[92, 120]⟩ : ByteArray) ++ t127).size ≤ 9223372036854775807) = true := decide_eq_true c28
                try have c28b2 : (9223372036854775807 < x3_1.size + ((⟨#[92, 120]⟩ : ByteArray) ++ t127).size) = False := eq_false (Nat.not_lt.2 c28)
                try (have c28b3 := c28b2; simp only [ByteArray.size_append, ByteArray.size_extract] at c28b3)
                try have c28b4 : (9223372036854775807 < x3_1.size + (2 + t127.size)) = False := eq_false (by have h_ := c28; (try simp only [ByteArray.size_append, ByteArray.size_extract] at h_); first | omega | (simp only [show (⟨#[92, 120]⟩ : ByteArray).size = 2 from rfl] at h_; omega))
                have H' := Aside0.mk H
                clear H
                go_wp2_with (first | ((with_reducible refine gate_callee (f := 28) rfl ?_); refine goesL_ (some 49) rfl rfl Tryd.func28 (by kernel_rfl) rfl #[.string (a0.extract (x8_1 : Int).toNat ((wrap64 (x8_1 + 1)) : Int).toNat)] rfl (by (try simp only [List.map_toArray, List.map_cons, List.map_nil]); first | done | rfl | (simp only [List.length_drop, List.length_take]; rfl)) ?_; (with_reducible refine (text_hexed.calls kj5 (a0.extract (x8_1 : Int).toNat ((wrap64 (x8_1 + 1)) : Int).toNat) t127 _ A26.out).mono ?_); rintro e w29 ⟨rfl, hb⟩; refine ⟨_, rfl, ?_⟩; have n0_ := Aside0.mk (below_step (by repeat (first | (with_reducible first | exact HB.out | apply below_alloc | apply pw_below_drewN | apply below_drew1) | exact HB.out)) hb); clear HB; have HB := n0_; clear n0_; (try clear hb); (try clear hb2); (try clear hk); (try clear hi)))
                go_roundg kj5
                case measure => have := HK1.out; have := HJ5.out; omega
                case rel => exact ⟨(x3_1 ++ ((⟨#[92, 120]⟩ : ByteArray) ++ t127)), (wrap64 (x8_1 + 1)), (by first | rfl | (simp; done) | (simp [*]; done)), (by first | rfl | (simp; done) | (simp [*]; done)), H', ⟨by have := HK1.out; have := HJ5.out; omega⟩, ⟨by repeat (first | (with_reducible first | exact HB.out | apply below_alloc | apply pw_below_drewN | apply below_drew1) | exact HB.out)⟩⟩
               ·rw [if_neg c28] at H
                exact absurd H (by simp)
              ·rw [if_neg c27] at H
               exact absurd H (by simp)
             ·rw [if_neg c25] at H
              exact absurd H (by simp)
            ·rw [if_neg c24] at H
             exact absurd H (by simp)
           ·rw [if_neg c23] at H
            exact absurd H (by simp)
          ·rw [if_neg c22] at H
           have c22b0 : decide (126 < (bt a0 x8_1)) = false := decide_eq_false c22
           clear c22
           by_cases c30 : 0 ≤ x8_1
           ·rw [if_pos c30] at H
            have c30b0 := eq_true c30
            have c30b1 : decide (0 ≤ x8_1) = true := decide_eq_true c30
            clear c30
            by_cases c31 : x8_1 ≤ (wrap64 (x8_1 + 1))
            ·rw [if_pos c31] at H
             have c31b0 := eq_true c31
             have c31b1 : decide (x8_1 ≤ (wrap64 (x8_1 + 1))) = true := decide_eq_true c31
             by_cases c32 : (wrap64 (x8_1 + 1)) ≤ (a0.size : Int)
             ·rw [if_pos c32] at H
              have c32b0 := eq_true c32
              have c32b1 : decide ((wrap64 (x8_1 + 1)) ≤ (a0.size : Int)) = true := decide_eq_true c32
              by_cases c33 : x3_1.size + (a0.extract (x8_1 : Int).toNat ((wrap64 (x8_1 + 1)) : Int).toNat).size ≤ 9223372036854775807
              ·rw [if_pos c33] at H
               have c33b0 := eq_true c33
               have c33b1 : decide (x3_1.size + (a0.extract (x8_1 : Int).toNat ((wrap64 (x8_1 + 1)) : Int).toNat).size ≤ 9223372036854775807) = true := decide_eq_true c33
               try have c33b2 : (9223372036854775807 < x3_1.size + (a0.extract (x8_1 : Int).toNat ((wrap64 (x8_1 + 1)) : Int).toNat).size) = False := eq_false (Nat.not_lt.2 c33)
               try (have c33b3 := c33b2; simp only [ByteArray.size_append, ByteArray.size_extract] at c33b3)
               try have c33b4 : (9223372036854775807 < x3_1.size + (((wrap64 (x8_1 + 1)) : Int).toNat - (x8_1 : Int).toNat)) = False := eq_false (by have h_ := c33; (try simp only [ByteArray.size_append, ByteArray.size_extract] at h_); first | omega | (simp only [Nat.add_zero] at h_; omega))
               have H' := Aside0.mk H
               clear H
               go_wp2
               go_roundg kj5
               case measure => have := HK1.out; have := HJ5.out; omega
               case rel => exact ⟨(x3_1 ++ (a0.extract (x8_1 : Int).toNat ((wrap64 (x8_1 + 1)) : Int).toNat)), (wrap64 (x8_1 + 1)), (by first | rfl | (simp; done) | (simp [*]; done)), (by first | rfl | (simp; done) | (simp [*]; done)), H', ⟨by have := HK1.out; have := HJ5.out; omega⟩, ⟨by repeat (first | (with_reducible first | exact HB.out | apply below_alloc | apply pw_below_drewN | apply below_drew1) | exact HB.out)⟩⟩
              ·rw [if_neg c33] at H
               exact absurd H (by simp)
             ·rw [if_neg c32] at H
              exact absurd H (by simp)
            ·rw [if_neg c31] at H
             exact absurd H (by simp)
           ·rw [if_neg c30] at H
            exact absurd H (by simp)
     ·rw [if_neg c4] at H
      exact absurd H (by simp)
    ·rw [if_neg c3] at H
     exact absurd H (by simp)
   ·rw [if_neg c2] at H
    have c2b0 : decide (x8_1 < (a0.size : Int)) = false := decide_eq_false c2
    clear c2
    by_cases c34 : x3_1.size + 1 ≤ 9223372036854775807
    ·rw [if_pos c34] at H
     have c34b0 := eq_true c34
     have c34b1 : decide (x3_1.size + 1 ≤ 9223372036854775807) = true := decide_eq_true c34
     try have c34b2 : (9223372036854775807 < x3_1.size + 1) = False := eq_false (Nat.not_lt.2 c34)
     try (have c34b3 := c34b2; simp only [ByteArray.size_append, ByteArray.size_extract] at c34b3)
     try have c34b4 : (9223372036854775807 < x3_1.size + 1) = False := eq_false (by have h_ := c34; (try simp only [ByteArray.size_append, ByteArray.size_extract] at h_); first | omega | (simp only [Nat.add_zero] at h_; omega))
     obtain rfl := Option.some.inj H
     go_wp2
     go_ret
     exact ⟨by first | rfl | (simp [errW_none, errW_some] <;> rfl) | (simp [*, errW_none, errW_some] <;> rfl), by repeat (first | (with_reducible first | exact HB.out | apply below_alloc | apply pw_below_drewN | apply below_drew1) | exact HB.out)⟩
    ·rw [if_neg c34] at H
     exact absurd H (by simp)
end Go.Proofs.YtpjfhdbkkomogaaDoor.Px
namespace Go.Proofs.YtpjfhdbkkomogaaDoor.Mb
open Go.RowKit Go.Proofs.YtpjfhdbkkomogaaDoorW.PrintWords Go.Proofs.YtpjfhdbkkomogaaDoor.Px
def DG : List UInt8 := [48, 49, 50, 51, 52, 53, 54, 55, 56, 57, 97, 98, 99, 100, 101, 102]
def hx (n : Nat) : UInt8 := DG.getD n 0
def two (c : UInt8) : List UInt8 := [hx (c.toNat / 16), hx (c.toNat % 16)]
def hexL (l : List UInt8) : List UInt8 := l.flatMap two
theorem hexL_append (a b : List UInt8) : hexL (a ++ b) = hexL a ++ hexL b := by simp [hexL]
theorem hexL_length (l : List UInt8) : (hexL l).length = 2 * l.length := by
  induction l with
  | nil => rfl
  | cons c l ih => rw [show hexL (c :: l) = two c ++ hexL l from rfl, List.length_append, ih]; simp [two]; omega
theorem bt_DG (n : Nat) (h : n < 16) : bt (⟨#[48, 49, 50, 51, 52, 53, 54, 55, 56, 57, 97, 98, 99, 100, 101, 102]⟩ : ByteArray) n = ((hx n).toNat : Int) := by
  have e := bt_B DG n h
  rw [show (⟨#[48, 49, 50, 51, 52, 53, 54, 55, 56, 57, 97, 98, 99, 100, 101, 102]⟩ : ByteArray) = B DG from rfl, e, hx]
  congr 2
  rw [List.getD_eq_getElem?_getD, List.getElem?_eq_getElem h]
  rfl
theorem wrap_in (n : Int) (h0 : 0 ≤ n) (h1 : n ≤ 1000000000) : wrap64 n = n := by unfold wrap64; omega
theorem byte_lt (c : UInt8) : (c.toNat : Int) < 256 := by have := c.toNat_lt; omega
theorem and15 (c : UInt8) : Go.bits .and .u8 (c.toNat : Int) 15 = ((c.toNat % 16 : Nat) : Int) := by
  have h := byte_lt c
  have h0 : (0 : Int) ≤ (c.toNat : Int) := by omega
  have e := u8_and15 _ h0 h
  rw [e]; omega
theorem hexed_loop (d : Nat) : ∀ (k : Nat) (pre post : List UInt8), post.length = d → d < k → pre.length + post.length ≤ 1000000 →
    text_hexed.l0 k (B (pre ++ post)) (N (hexL pre)) ((B (pre ++ post)).size : Int) (pre.length : Int) = some (B (hexL (pre ++ post))) := by
  induction d with
  | zero =>
    intro k pre post hd hk hb
    obtain ⟨k, rfl⟩ : ∃ m, k = m + 1 := ⟨k - 1, by omega⟩
    have hp : post = [] := List.length_eq_zero_iff.1 hd
    subst hp
    simp only [text_hexed.l0, List.append_nil]
    rw [if_neg (by rw [size_B]; omega), str_N]
  | succ d ih =>
    intro k pre post hd hk hb
    obtain ⟨k, rfl⟩ : ∃ m, k = m + 1 := ⟨k - 1, by omega⟩
    cases post with
    | nil => simp at hd
    | cons c post =>
      have hd' : post.length = d := by simpa using hd
      have hbt : bt (B (pre ++ c :: post)) (pre.length : Int) = (c.toNat : Int) := by
        rw [bt_B _ _ (by simp)]; simp
      have hc := c.toNat_lt
      simp only [text_hexed.l0, hbt, and15]
      have hs : (B (pre ++ c :: post)).size = pre.length + (post.length + 1) := by rw [size_B]; simp
      rw [if_pos (by omega), if_pos (by omega), if_pos (by omega), if_pos (by omega), if_pos (by omega), if_pos (by omega), if_pos (by omega)]
      simp only [Option.bind_some]
      rw [if_pos (by rw [N_length, hexL_length]; simp; simp at hb; omega)]
      rw [show ((c.toNat : Int) / 16) = ((c.toNat / 16 : Nat) : Int) by omega, bt_DG _ (by omega), bt_DG _ (by omega)]
      rw [show ([((hx (c.toNat / 16)).toNat : Int), ((hx (c.toNat % 16)).toNat : Int)] : List Int) = N (two c) from rfl, N_append]
      rw [show hexL pre ++ two c = hexL (pre ++ [c]) by rw [hexL_append]; simp [hexL]]
      rw [wrap_in _ (by omega) (by simp at hb; omega)]
      have := ih k (pre ++ [c]) post hd' (by omega) (by simp at hb ⊢; omega)
      simp only [List.append_assoc, List.singleton_append, List.length_append, List.length_singleton] at this
      rw [show ((pre.length : Int) + 1) = ((pre.length + 1 : Nat) : Int) by omega]
      exact this
theorem hexed_is (k : Nat) (l : List UInt8) (hk : l.length < k) (hb : l.length ≤ 1000000) : text_hexed.f k (B l) = some (B (hexL l)) :=
  hexed_loop l.length k [] l rfl hk (by simpa using hb)
def esc (c : UInt8) : List UInt8 := if c = 34 ∨ c = 92 then [92, c] else if c < 32 ∨ 126 < c then 92 :: 120 :: two c else [c]
def quoteL (l : List UInt8) : List UInt8 := 34 :: l.flatMap esc ++ [34]
theorem esc_length (c : UInt8) : (esc c).length ≤ 4 := by unfold esc; split <;> (try split) <;> simp [two]
theorem flat_length (l : List UInt8) : (l.flatMap esc).length ≤ 4 * l.length := by
  induction l with
  | nil => simp
  | cons c l ih => rw [List.flatMap_cons, List.length_append, List.length_cons]; have := esc_length c; omega
theorem cut1 (pre : List UInt8) (c : UInt8) (post : List UInt8) : (B (pre ++ c :: post)).extract (pre.length : Int).toNat ((pre.length + 1 : Nat) : Int).toNat = B [c] := by
  rw [extract_B]
  congr 1
  simp
theorem quoted_loop (d : Nat) : ∀ (k : Nat) (pre post : List UInt8), post.length = d → 2 * d + 4 < k → pre.length + post.length ≤ 1000000 →
    text_quoted.l0 k (B (pre ++ post)) (B (34 :: pre.flatMap esc)) ((B (pre ++ post)).size : Int) (pre.length : Int) = some (B (quoteL (pre ++ post))) := by
  induction d with
  | zero =>
    intro k pre post hd hk hb
    obtain ⟨k, rfl⟩ : ∃ m, k = m + 1 := ⟨k - 1, by omega⟩
    have hp : post = [] := List.length_eq_zero_iff.1 hd
    subst hp
    have hf := flat_length pre
    have hs : (B (34 :: pre.flatMap esc)).size = (pre.flatMap esc).length + 1 := by rw [size_B]; rfl
    simp only [text_quoted.l0, List.append_nil]
    rw [if_neg (by rw [size_B]; omega), if_pos (by simp at hb; omega)]
    rw [show (⟨#[34]⟩ : ByteArray) = B [34] from rfl, append_B]
    rfl
  | succ d ih =>
    intro k pre post hd hk hb
    obtain ⟨k, rfl⟩ : ∃ m, k = m + 2 := ⟨k - 2, by omega⟩
    cases post with
    | nil => simp at hd
    | cons c post =>
      have hd' : post.length = d := by simpa using hd
      have hb' : pre.length + (post.length + 1) ≤ 1000000 := by simpa using hb
      have hbt : bt (B (pre ++ c :: post)) (pre.length : Int) = (c.toNat : Int) := by
        rw [bt_B _ _ (by simp)]; simp
      have hc := c.toNat_lt
      have hf := flat_length pre
      have hs0 : (B (34 :: pre.flatMap esc)).size = (pre.flatMap esc).length + 1 := by rw [size_B]; rfl
      have hs : (B (pre ++ c :: post)).size = pre.length + (post.length + 1) := by rw [size_B]; simp
      have hw : Hid (wrap64 ((pre.length : Int) + 1) = ((pre.length + 1 : Nat) : Int)) := Lib.hid (by rw [wrap_in _ (by omega) (by omega)]; rfl)
      have big : ∀ x : List UInt8, x.length ≤ 4 → (B (34 :: pre.flatMap esc)).size + (B x).size ≤ 9223372036854775807 := fun x hx => by rw [hs0, size_B]; omega
      have hcut := cut1 pre c post
      have next : ∀ e, esc c = e → text_quoted.l0 k (B (pre ++ c :: post)) (B (34 :: pre.flatMap esc) ++ B e) ((B (pre ++ c :: post)).size : Int) ((pre.length + 1 : Nat) : Int) = some (B (quoteL (pre ++ c :: post))) := fun e he => by
        have h := ih k (pre ++ [c]) post hd' (by omega) (by rw [List.length_append, List.length_singleton]; omega)
        have e1 : pre ++ [c] ++ post = pre ++ c :: post := by rw [List.append_assoc]; rfl
        have e2 : (pre ++ [c]).flatMap esc = pre.flatMap esc ++ e := by rw [List.flatMap_append, ← he]; simp
        have e3 : ((pre ++ [c]).length : Int) = ((pre.length + 1 : Nat) : Int) := by rw [List.length_append]; rfl
        rw [e1, e2, e3] at h
        rw [append_B, List.cons_append]
        exact h
      have h1 : ∀ b : Bool, ((c = 34 ∨ c = 92) ↔ b = true) → text_quoted.j1 (k + 1) (B (pre ++ c :: post)) (B (34 :: pre.flatMap esc)) (pre.length : Int) (c.toNat : Int) ((B (pre ++ c :: post)).size : Int) (pre.length : Int) b = some (B (quoteL (pre ++ c :: post))) := fun b hb => by
        simp only [text_quoted.j1, hw.out, hcut]
        by_cases hq : c = 34 ∨ c = 92
        · rw [if_pos (hb.1 hq), if_pos (by omega), if_pos (by omega), if_pos (by omega), if_pos (by rw [size_B]; simp), show (⟨#[92]⟩ : ByteArray) = B [92] from rfl, append_B, if_pos (big _ (by simp))]
          exact next _ (by unfold esc; rw [if_pos hq]; rfl)
        · rw [if_neg (fun h => hq (hb.2 h))]
          have hex : text_hexed.f k (B [c]) = some (B (two c)) := by
            rw [hexed_is k [c] (by simp; omega) (by simp)]; simp [hexL]
          by_cases h32 : (c.toNat : Int) < 32
          · rw [if_pos h32, if_pos (by omega), if_pos (by omega), if_pos (by omega), hex]
            simp only [Option.bind_some]
            rw [if_pos (by rw [size_B]; simp [two]), show (⟨#[92, 120]⟩ : ByteArray) = B [92, 120] from rfl, append_B, if_pos (big _ (by simp [two]))]
            exact next _ (by unfold esc; rw [if_neg hq, if_pos (.inl (UInt8.lt_iff_toNat_lt.2 (by rw [show (32 : UInt8).toNat = 32 by decide]; omega)))]; rfl)
          · rw [if_neg h32]
            by_cases h126 : (c.toNat : Int) > 126
            · rw [if_pos h126, if_pos (by omega), if_pos (by omega), if_pos (by omega), hex]
              simp only [Option.bind_some]
              rw [if_pos (by rw [size_B]; simp [two]), show (⟨#[92, 120]⟩ : ByteArray) = B [92, 120] from rfl, append_B, if_pos (big _ (by simp [two]))]
              exact next _ (by unfold esc; rw [if_neg hq, if_pos (.inr (UInt8.lt_iff_toNat_lt.2 (by rw [show (126 : UInt8).toNat = 126 by decide]; omega)))]; rfl)
            · rw [if_neg h126, if_pos (by omega), if_pos (by omega), if_pos (by omega), if_pos (big _ (by simp))]
              exact next _ (by unfold esc; rw [if_neg hq, if_neg (by rw [UInt8.lt_iff_toNat_lt, UInt8.lt_iff_toNat_lt, show (32 : UInt8).toNat = 32 by decide, show (126 : UInt8).toNat = 126 by decide]; omega)])
      have h34 : c = 34 ↔ (c.toNat : Int) = 34 := ⟨fun h => by rw [h]; decide, fun h => UInt8.toNat_inj.1 (by rw [show (34 : UInt8).toNat = 34 by decide]; omega)⟩
      have h92 : c = 92 ↔ (c.toNat : Int) = 92 := ⟨fun h => by rw [h]; decide, fun h => UInt8.toNat_inj.1 (by rw [show (92 : UInt8).toNat = 92 by decide]; omega)⟩
      simp only [text_quoted.l0, hbt]
      rw [if_pos (by omega), if_pos (by omega), if_pos (by omega)]
      by_cases h : (c.toNat : Int) = 34
      · rw [if_pos h]
        exact h1 true (by rw [h34]; simp [h])
      · rw [if_neg h]
        exact h1 _ (by rw [h34, h92]; simp [h])
theorem quoted_is (k : Nat) (l : List UInt8) (hk : 2 * l.length + 4 < k) (hb : l.length ≤ 1000000) : text_quoted.f k (B l) = some (B (quoteL l)) :=
  quoted_loop l.length k [] l rfl hk (by simpa using hb)
end Go.Proofs.YtpjfhdbkkomogaaDoor.Mb
namespace Go.Proofs.YtpjfhdbkkomogaaDoor.Px
open Go.RowKit Go.Proofs.YtpjfhdbkkomogaaDoor.Gvn Go.Proofs.YtpjfhdbkkomogaaDoorW.PrintWords Go.Proofs.YtpjfhdbkkomogaaDoorW.PrintLast Go.Proofs.YtpjfhdbkkomogaaDoorW.PrintMore
attribute [local go_sem] run_store_float min2_int min_two
set_option linter.unusedVariables false
set_option linter.unusedSimpArgs false
def stringslite_HasPrefix.f (a0 : ByteArray) (a1 : ByteArray) : Option (Bool) := if (a0.size : Int) ≥ (a1.size : Int) then (if 0 ≤ (a1.size : Int) then (if (a1.size : Int) ≤ (a0.size : Int) then (some ((a0.extract 0 ((a1.size : Int) : Int).toNat).toList == a1.toList)) else (none)) else (none)) else (some false)
set_option maxHeartbeats 8000000 in
set_option maxRecDepth 100000 in
theorem stringslite_HasPrefix.calls (a0 : ByteArray) (a1 : ByteArray) (r : Bool) (w : World) (h : stringslite_HasPrefix.f a0 a1 = some r) :
  Calls Tryd.prog 66 #[.string a0, .string a1] w fun e w' => e = .returned (.bool r) ∧ Drawn0 w w' := by
 have H : (if (a0.size : Int) ≥ (a1.size : Int) then (if 0 ≤ (a1.size : Int) then (if (a1.size : Int) ≤ (a0.size : Int) then (some ((a0.extract 0 ((a1.size : Int) : Int).toNat).toList == a1.toList)) else (none)) else (none)) else (some false)) = some r := h
 clear h
 by_cases c3 : (a0.size : Int) ≥ (a1.size : Int)
 ·rw [if_pos c3] at H
  have c3b0 : decide ((a1.size : Int) ≤ (a0.size : Int)) = true := decide_eq_true c3
  have c3b1 : decide (a1.size ≤ a0.size) = true := decide_eq_true (Int.ofNat_le.mp c3)
  clear c3
  by_cases c4 : 0 ≤ (a1.size : Int)
  ·rw [if_pos c4] at H
   have c4b0 := eq_true c4
   have c4b1 : decide (0 ≤ (a1.size : Int)) = true := decide_eq_true c4
   clear c4
   by_cases c5 : (a1.size : Int) ≤ (a0.size : Int)
   ·rw [if_pos c5] at H
    have c5b0 := eq_true c5
    have c5b1 : decide ((a1.size : Int) ≤ (a0.size : Int)) = true := decide_eq_true c5
    clear c5
    obtain rfl := Option.some.inj H
    have k23 := run23
    have k22 := run22
    go_enter Tryd.func66, Tryd.ntmps66
    go_wp2
    go_ret
    exact ⟨by first | rfl | (simp; done) | (simp [*]; done), by repeat (first | exact Drawn0.refl _ | apply Drawn0.step)⟩
   ·rw [if_neg c5] at H
    exact absurd H (by simp)
  ·rw [if_neg c4] at H
   exact absurd H (by simp)
 ·rw [if_neg c3] at H
  have c3b0 : decide ((a1.size : Int) ≤ (a0.size : Int)) = false := decide_eq_false c3
  have c3b1 : decide (a1.size ≤ a0.size) = false := decide_eq_false (fun h => c3 (Int.ofNat_le.mpr h))
  clear c3
  obtain rfl := Option.some.inj H
  have k23 := run23
  have k22 := run22
  go_enter Tryd.func66, Tryd.ntmps66
  go_wp2
  go_ret
  exact ⟨by first | rfl | (simp; done) | (simp [*]; done), by repeat (first | exact Drawn0.refl _ | apply Drawn0.step)⟩
def strings_HasPrefix.f (a0 : ByteArray) (a1 : ByteArray) : Option (Bool) := (stringslite_HasPrefix.f a0 a1).bind fun t128 => (some t128)
set_option maxHeartbeats 8000000 in
set_option maxRecDepth 100000 in
theorem strings_HasPrefix.calls (a0 : ByteArray) (a1 : ByteArray) (r : Bool) (w : World) (h : strings_HasPrefix.f a0 a1 = some r) :
  Calls Tryd.prog 44 #[.string a0, .string a1] w fun e w' => e = .returned (.bool r) ∧ Drawn0 w w' := by
 have H : ((stringslite_HasPrefix.f a0 a1).bind fun t128 => (some t128)) = some r := h
 clear h
 replace H := Option.bind_eq_some_iff.mp H
 obtain ⟨t128, A30, H⟩ := H
 replace H : (some t128) = some r := H
 have A3 := Aside0.mk A30
 clear A30
 obtain rfl := Option.some.inj H
 have k23 := run23
 have k22 := run22
 go_enter Tryd.func44, Tryd.ntmps44
 go_wp2_with (first | ((with_reducible refine gate_callee (f := 66) rfl ?_); refine goesL_ (some 7) rfl rfl Tryd.func66 (by kernel_rfl) rfl #[.string a0, .string a1] rfl (by (try simp only [List.map_toArray, List.map_cons, List.map_nil]); first | done | rfl | (simp only [List.length_drop, List.length_take]; rfl)) ?_; (with_reducible refine (stringslite_HasPrefix.calls a0 a1 t128 _ A3.out).mono ?_); rintro e w' ⟨rfl, ⟨nd, rfl⟩⟩; refine ⟨_, rfl, ?_⟩))
 go_ret
 exact ⟨by first | rfl | (simp; done) | (simp [*]; done), by repeat (first | exact Drawn0.refl _ | apply Drawn0.step)⟩
def text_digit.f (a0 : Int) : Option (Int) := (strings_IndexByte.f (⟨#[48, 49, 50, 51, 52, 53, 54, 55, 56, 57, 97, 98, 99, 100, 101, 102]⟩ : ByteArray) a0).bind fun t136 => (some t136)
set_option maxHeartbeats 8000000 in
set_option maxRecDepth 100000 in
theorem text_digit.calls (a0 : Int) (r : Int) (w : World) (h : text_digit.f a0 = some r) :
  Calls Tryd.prog 69 #[.int .u8 a0] w fun e w' => e = .returned (.int .i64 r) ∧ Drawn0 w w' := by
 have H : ((strings_IndexByte.f (⟨#[48, 49, 50, 51, 52, 53, 54, 55, 56, 57, 97, 98, 99, 100, 101, 102]⟩ : ByteArray) a0).bind fun t136 => (some t136)) = some r := h
 clear h
 replace H := Option.bind_eq_some_iff.mp H
 obtain ⟨t136, A20, H⟩ := H
 replace H : (some t136) = some r := H
 have A2 := Aside0.mk A20
 clear A20
 obtain rfl := Option.some.inj H
 have k23 := run23
 have k22 := run22
 go_enter Tryd.func69, Tryd.ntmps69
 go_wp2_with (first | ((with_reducible refine gate_callee (f := 82) rfl ?_); refine goesL_ (some 4) rfl rfl Tryd.func82 (by kernel_rfl) rfl #[.string (⟨#[48, 49, 50, 51, 52, 53, 54, 55, 56, 57, 97, 98, 99, 100, 101, 102]⟩ : ByteArray), .int .u8 a0] rfl (by (try simp only [List.map_toArray, List.map_cons, List.map_nil]); first | done | rfl | (simp only [List.length_drop, List.length_take]; rfl)) ?_; (with_reducible refine (strings_IndexByte.calls (⟨#[48, 49, 50, 51, 52, 53, 54, 55, 56, 57, 97, 98, 99, 100, 101, 102]⟩ : ByteArray) a0 t136 _ A2.out).mono ?_); rintro e w' ⟨rfl, ⟨nd, rfl⟩⟩; refine ⟨_, rfl, ?_⟩))
 go_ret
 exact ⟨by first | rfl | (simp; done) | (simp [*]; done), by repeat (first | exact Drawn0.refl _ | apply Drawn0.step)⟩
mutual
def text_unhexed.l0 : Nat → ByteArray → List Int → Option (ByteArray × ByteArray)
 | 0, _, _ => none
 | k + 1, x0, x4 => if (x0.size : Int) > 1 then (if 0 < (x0.size : Int) then ((text_digit.f (bt x0 0)).bind fun t137 => (if t137 ≥ 0 then (if 1 < (x0.size : Int) then ((text_digit.f (bt x0 1)).bind fun t138 => (text_unhexed.j1 k x0 x4 (decide (t138 ≥ 0)))) else (none)) else (text_unhexed.j1 k x0 x4 false))) else (none)) else (text_unhexed.j1 k x0 x4 false)
def text_unhexed.j1 : Nat → ByteArray → List Int → Bool → Option (ByteArray × ByteArray)
 | 0, _, _, _ => none
 | k + 1, x0, x4, x19 => if x19 = true then (if 0 < (x0.size : Int) then ((text_digit.f (bt x0 0)).bind fun t139 => (if 1 < (x0.size : Int) then ((text_digit.f (bt x0 1)).bind fun t140 => (if x4.length < 140737488355328 then (if 2 ≤ (x0.size : Int) then (text_unhexed.l0 k (x0.extract 2 x0.size) (x4 ++ [(Go.bits .or .i64 (wrap64 (t139 * 16)) t140) % 256])) else (none)) else (none))) else (none))) else (none)) else (some (strOfNums x4, x0))
end
def text_unhexed.f (k : Nat) (a0 : ByteArray) : Option (ByteArray × ByteArray) := text_unhexed.l0 k a0 ([] : List Int)
theorem text_unhexed.mono_l : ∀ k, (∀ y0 y1, LeO (text_unhexed.l0 k y0 y1) (text_unhexed.l0 (k + 1) y0 y1)) ∧ (∀ y0 y1 y2, LeO (text_unhexed.j1 k y0 y1 y2) (text_unhexed.j1 (k + 1) y0 y1 y2))
 | 0 => ⟨fun _ _ r h => by simp [text_unhexed.l0] at h, fun _ _ _ r h => by simp [text_unhexed.j1] at h⟩
 | k + 1 => by
  obtain ⟨ih0, ih1⟩ := text_unhexed.mono_l k
  refine ⟨?_, ?_⟩
  ·intro y0 y1
   unfold text_unhexed.l0
   repeat' first
   | (with_reducible exact ih0 _ _)
   | (with_reducible exact ih1 _ _ _)
   | (with_reducible exact LeO.refl _)
   | (with_reducible exact LeO.none _)
   | (with_reducible refine LeO.ite ?_ ?_)
   | (with_reducible refine LeO.bind ?_ (fun _ => ?_))
   | exact ih0 _ _
   | exact ih1 _ _ _
   | exact LeO.none _
   | refine LeO.ite ?_ ?_
   | refine LeO.bind ?_ (fun _ => ?_)
  ·intro y0 y1 y2
   unfold text_unhexed.j1
   repeat' first
   | (with_reducible exact ih0 _ _)
   | (with_reducible exact ih1 _ _ _)
   | (with_reducible exact LeO.refl _)
   | (with_reducible exact LeO.none _)
   | (with_reducible refine LeO.ite ?_ ?_)
   | (with_reducible refine LeO.bind ?_ (fun _ => ?_))
   | exact ih0 _ _
   | exact ih1 _ _ _
   | exact LeO.none _
   | refine LeO.ite ?_ ?_
   | refine LeO.bind ?_ (fun _ => ?_)
theorem text_unhexed.mono : ∀ a0 k, LeO (text_unhexed.f k a0) (text_unhexed.f (k + 1) a0) := by
 intro a0 k
 obtain ⟨ih0, ih1⟩ := text_unhexed.mono_l k
 unfold text_unhexed.f
 repeat' first
   | (with_reducible exact ih0 _ _)
   | (with_reducible exact ih1 _ _ _)
   | (with_reducible exact LeO.refl _)
   | (with_reducible exact LeO.none _)
   | (with_reducible refine LeO.ite ?_ ?_)
   | (with_reducible refine LeO.bind ?_ (fun _ => ?_))
   | exact ih0 _ _
   | exact ih1 _ _ _
   | exact LeO.none _
   | refine LeO.ite ?_ ?_
   | refine LeO.bind ?_ (fun _ => ?_)
def text_unhexed.T3 : Bool × List (List Nat × List Nat) := (true, [([], []), ([], []), ([1], [1]), ([2], [2]), ([3], [3]), ([], []), ([5], [5]), ([6, 3], [6]), ([4, 7], [4, 7]), ([8], [8]), ([9], [9]), ([0, 10, 7], [0, 10]), ([11, 11, 0, 1, 2, 3, 4, 5, 6, 7, 8, 9, 10, 11], [0, 11])])
def text_unhexed.B3 : List Nat := [0, 0, 2, 6, 14, 0, 32, 110, 254, 510, 1022, 2047, 4095]
theorem text_unhexed.tab3 : rtab .any (opsOf Tryd.f51 3) = text_unhexed.T3 := by kernel_rfl
theorem text_unhexed.bits3 : waitsOk text_unhexed.T3.2 text_unhexed.B3 = true := by kernel_rfl
set_option maxHeartbeats 8000000 in
set_option maxRecDepth 100000 in
theorem text_unhexed.calls (k : Nat) (a0 : ByteArray) (r1 : ByteArray) (r2 : ByteArray) (w : World) (h : text_unhexed.f k a0 = some (r1, r2)) :
  Calls Tryd.prog 51 #[.string a0] w fun e w' => e = .returned (.tuple #[.string r1, .string r2]) ∧ Below w.heap.size w w' := by
 have HB := Aside0.mk (Below.refl w.heap.size w)
 have H : (text_unhexed.l0 k a0 ([] : List Int)) = some (r1, r2) := h
 clear h
 have H' := Aside0.mk H
 clear H
 have k23 := run23
 have k22 := run22
 go_enter Tryd.func51, Tryd.ntmps51
 go_wp2
 go_loopg [0, 4] k (fun kq v0 v4 w' => ∃ (x0_1 : ByteArray) (x4_1 : List Int), v0 = .string x0_1 ∧ Aside0 (text_unhexed.l0 kq x0_1 x4_1 = some (r1, r2)) ∧ Aside0 (kq ≤ k) ∧ Aside0 (Kd.R (Kd.int .u8) 5 w' w.heap.size (fun _ => True) v4 x4_1) ∧ Aside0 (Below w.heap.size w w'))
 case atStart => exact ⟨(a0), (([] : List Int)), (by first | rfl | (simp; done) | (simp [*]; done)), H', ⟨Nat.le_refl _⟩, ⟨by first | exact Kd.R_nil _ _ _ _ _ | exact Kd.N_nil _ _ _ _ _ | exact Kd.V_nil _ _ _ _ _ | exact Kd.Q_nil _ _ _ _ _ | exact Kd.S_nil _ _ _ _ _⟩, ⟨by repeat (first | (with_reducible first | exact HB.out | apply below_alloc | apply pw_below_drewN | apply below_drew1) | exact HB.out)⟩⟩
 case round =>
  clear H'
  obtain ⟨x0_1, x4_1, rfl, HA, HK1, HO_4, HB⟩ := hrel
  cases gk with
  | zero => exact absurd HA.out (by simp [text_unhexed.l0])
  | succ k1 =>
   have H := HA.out
   clear HA
   simp only [text_unhexed.l0] at H
   have HC2 := Aside0.mk H
   clear H
   go_upto_region 2 with (fail)
   go_cut [19] (fun v19 wc => ∃ (kq : Nat) (x19_1 : Bool), v19 = .bool x19_1 ∧ Aside0 (text_unhexed.j1 kq x0_1 x4_1 x19_1 = some (r1, r2)) ∧ Aside0 (kq ≤ k1) ∧ Aside0 (Kd.R (Kd.int .u8) 5 wc w.heap.size (fun _ => True) u4 x4_1) ∧ Aside0 (Below w.heap.size w wc))
   case first =>
    have H := HC2.out
    clear HC2
    by_cases c3 : (x0_1.size : Int) > 1
    ·rw [if_pos c3] at H
     have c3b0 : decide (1 < (x0_1.size : Int)) = true := decide_eq_true c3
     have c3b1 : decide (1 < x0_1.size) = true := decide_eq_true (by omega)
     clear c3
     (first | rw [c3b0] | (simp only [i64_w, i32_w]; rw [c3b0]) | skip)
     by_cases c4 : 0 < (x0_1.size : Int)
     ·rw [if_pos c4] at H
      have c4b0 : decide (0 < (x0_1.size : Int)) = true := decide_eq_true c4
      have c4b1 : decide (0 < x0_1.size) = true := decide_eq_true (by omega)
      clear c4
      replace H := Option.bind_eq_some_iff.mp H
      obtain ⟨t137, A60, H⟩ := H
      replace H : (if t137 ≥ 0 then (if 1 < (x0_1.size : Int) then ((text_digit.f (bt x0_1 1)).bind fun t138 => (text_unhexed.j1 k1 x0_1 x4_1 (decide (t138 ≥ 0)))) else (none)) else (text_unhexed.j1 k1 x0_1 x4_1 false)) = some (r1, r2) := H
      have A6 := Aside0.mk A60
      clear A60
      by_cases c7 : t137 ≥ 0
      ·rw [if_pos c7] at H
       have c7b0 : decide (0 ≤ t137) = true := decide_eq_true c7
       clear c7
       by_cases c8 : 1 < (x0_1.size : Int)
       ·rw [if_pos c8] at H
        have c8b0 : decide (1 < (x0_1.size : Int)) = true := decide_eq_true c8
        have c8b1 : decide (1 < x0_1.size) = true := decide_eq_true (by omega)
        clear c8
        replace H := Option.bind_eq_some_iff.mp H
        obtain ⟨t138, A100, H⟩ := H
        replace H : (text_unhexed.j1 k1 x0_1 x4_1 (decide (t138 ≥ 0))) = some (r1, r2) := H
        have A10 := Aside0.mk A100
        clear A100
        have H' := Aside0.mk H
        clear H
        have p5 : 0 ≤ (0 : Int) := (by omega)
        have q5 : 0 < x0_1.size := (by have : (0 : Int) < (x0_1.size : Int) := of_decide_eq_true (by first | (with_reducible assumption) | assumption); omega)
        have hx5 : ∀ h : 0 < x0_1.size, ((x0_1[0]'h).toNat : Int) = bt x0_1 0 := bt_at x0_1 0
        clear p5
        have qi5 : (0 < (x0_1.size : Int)) = True := eq_true (of_decide_eq_true (by first | (with_reducible assumption) | assumption))
        replace q5 := eq_true q5
        go_wp2_with (first | (go_at_call 69; (with_reducible refine (text_digit.calls (bt x0_1 0) t137 _ A6.out).mono ?_); rintro e w' ⟨rfl, ⟨nd, rfl⟩⟩; have p9 : 0 ≤ (1 : Int) := (by omega); have q9 : 1 < x0_1.size := (by have : (1 : Int) < (x0_1.size : Int) := of_decide_eq_true (by first | (with_reducible assumption) | assumption); omega); have hx9 : ∀ h : 1 < x0_1.size, ((x0_1[1]'h).toNat : Int) = bt x0_1 1 := bt_at x0_1 1; clear p9; have qi9 : (1 < (x0_1.size : Int)) = True := eq_true (of_decide_eq_true (by first | (with_reducible assumption) | assumption)); replace q9 := eq_true q9) | (go_at_call 69; (with_reducible refine (text_digit.calls (bt x0_1 1) t138 _ A10.out).mono ?_); rintro e w' ⟨rfl, ⟨nd, rfl⟩⟩))
        go_meet
        case rel => exact ⟨_, (decide (t138 ≥ 0)), (by first | rfl | (simp; done) | (simp [*]; done)), H', ⟨by have := HK1.out; first | omega | exact Nat.le_refl _⟩, ⟨by (with_reducible repeat (first | apply Kd.R_alloc | apply Kd.R_drewN | apply Kd.R_drew)); exact HO_4.out⟩, ⟨by repeat (first | (with_reducible first | exact HB.out | apply below_alloc | apply pw_below_drewN | apply below_drew1) | exact HB.out)⟩⟩
       ·rw [if_neg c8] at H
        exact absurd H (by simp)
      ·rw [if_neg c7] at H
       have c7b0 : decide (0 ≤ t137) = false := decide_eq_false c7
       clear c7
       have H' := Aside0.mk H
       clear H
       have p5 : 0 ≤ (0 : Int) := (by omega)
       have q5 : 0 < x0_1.size := (by have : (0 : Int) < (x0_1.size : Int) := of_decide_eq_true (by first | (with_reducible assumption) | assumption); omega)
       have hx5 : ∀ h : 0 < x0_1.size, ((x0_1[0]'h).toNat : Int) = bt x0_1 0 := bt_at x0_1 0
       clear p5
       have qi5 : (0 < (x0_1.size : Int)) = True := eq_true (of_decide_eq_true (by first | (with_reducible assumption) | assumption))
       replace q5 := eq_true q5
       go_wp2_with (first | (go_at_call 69; (with_reducible refine (text_digit.calls (bt x0_1 0) t137 _ A6.out).mono ?_); rintro e w' ⟨rfl, ⟨nd, rfl⟩⟩))
       go_meet
       case rel => exact ⟨_, (false), (by first | rfl | (simp; done) | (simp [*]; done)), H', ⟨by have := HK1.out; first | omega | exact Nat.le_refl _⟩, ⟨by (with_reducible repeat (first | apply Kd.R_alloc | apply Kd.R_drewN | apply Kd.R_drew)); exact HO_4.out⟩, ⟨by repeat (first | (with_reducible first | exact HB.out | apply below_alloc | apply pw_below_drewN | apply below_drew1) | exact HB.out)⟩⟩
     ·rw [if_neg c4] at H
      exact absurd H (by simp)
    ·rw [if_neg c3] at H
     have c3b0 : decide (1 < (x0_1.size : Int)) = false := decide_eq_false c3
     have c3b1 : decide (1 < x0_1.size) = false := decide_eq_false (by omega)
     clear c3
     (first | rw [c3b0] | (simp only [i64_w, i32_w]; rw [c3b0]) | skip)
     have H' := Aside0.mk H
     clear H
     go_wp2
     go_meet
     case rel => exact ⟨_, (false), (by first | rfl | (simp; done) | (simp [*]; done)), H', ⟨by have := HK1.out; first | omega | exact Nat.le_refl _⟩, ⟨by (with_reducible repeat (first | apply Kd.R_alloc | apply Kd.R_drewN | apply Kd.R_drew)); exact HO_4.out⟩, ⟨by repeat (first | (with_reducible first | exact HB.out | apply below_alloc | apply pw_below_drewN | apply below_drew1) | exact HB.out)⟩⟩
   case rest =>
    clear HC2
    try clear p2;try clear c3;try clear c3b0;try clear c3b1;try clear c4;try clear c4b0;try clear c4b1;try clear c5;try clear p5;try clear q5;try clear hx5;try clear qi5;try clear c7;try clear c7b0;try clear c8;try clear c8b0;try clear c8b1;try clear p9;try clear q9;try clear hx9;try clear qi9;try clear p5;try clear p9;try clear q5;try clear q9
    obtain ⟨kq, x19_1, rfl, HA, HJ1, HO_4, HB⟩ := hcut
    cases kq with
    | zero => exact absurd HA.out (by simp [text_unhexed.j1])
    | succ kj1 =>
     have H := HA.out
     clear HA
     simp only [text_unhexed.j1] at H
     by_cases c11 : x19_1 = true
     ·subst c11
      have H1 : (if 0 < (x0_1.size : Int) then ((text_digit.f (bt x0_1 0)).bind fun t139 => (if 1 < (x0_1.size : Int) then ((text_digit.f (bt x0_1 1)).bind fun t140 => (if x4_1.length < 140737488355328 then (if 2 ≤ (x0_1.size : Int) then (text_unhexed.l0 kj1 (x0_1.extract 2 x0_1.size) (x4_1 ++ [(Go.bits .or .i64 (wrap64 (t139 * 16)) t140) % 256])) else (none)) else (none))) else (none))) else (none)) = some (r1, r2) := by rw [if_pos rfl] at H; exact H
      clear H
      have H := H1
      clear H1
      by_cases c12 : 0 < (x0_1.size : Int)
      ·rw [if_pos c12] at H
       have c12b0 : decide (0 < (x0_1.size : Int)) = true := decide_eq_true c12
       have c12b1 : decide (0 < x0_1.size) = true := decide_eq_true (by omega)
       clear c12
       replace H := Option.bind_eq_some_iff.mp H
       obtain ⟨t139, A140, H⟩ := H
       replace H : (if 1 < (x0_1.size : Int) then ((text_digit.f (bt x0_1 1)).bind fun t140 => (if x4_1.length < 140737488355328 then (if 2 ≤ (x0_1.size : Int) then (text_unhexed.l0 kj1 (x0_1.extract 2 x0_1.size) (x4_1 ++ [(Go.bits .or .i64 (wrap64 (t139 * 16)) t140) % 256])) else (none)) else (none))) else (none)) = some (r1, r2) := H
       have A14 := Aside0.mk A140
       clear A140
       by_cases c15 : 1 < (x0_1.size : Int)
       ·rw [if_pos c15] at H
        have c15b0 : decide (1 < (x0_1.size : Int)) = true := decide_eq_true c15
        have c15b1 : decide (1 < x0_1.size) = true := decide_eq_true (by omega)
        clear c15
        replace H := Option.bind_eq_some_iff.mp H
        obtain ⟨t140, A170, H⟩ := H
        replace H : (if x4_1.length < 140737488355328 then (if 2 ≤ (x0_1.size : Int) then (text_unhexed.l0 kj1 (x0_1.extract 2 x0_1.size) (x4_1 ++ [(Go.bits .or .i64 (wrap64 (t139 * 16)) t140) % 256])) else (none)) else (none)) = some (r1, r2) := H
        have A17 := Aside0.mk A170
        clear A170
        by_cases c18 : x4_1.length < 140737488355328
        ·rw [if_pos c18] at H
         have LMc18 := Aside0.mk c18
         clear c18
         obtain ⟨y141, hy141⟩ : ∃ y_ : List Int, y_ = (x4_1 ++ [(Go.bits .or .i64 (wrap64 (t139 * 16)) t140) % 256]) := ⟨_, rfl⟩
         replace H : (if 2 ≤ (x0_1.size : Int) then (text_unhexed.l0 kj1 (x0_1.extract 2 x0_1.size) y141) else (none)) = some (r1, r2) := by first | (rw [hy141]; with_reducible exact H) | (have H2_ := (Option.bind_some _ _).symm.trans H; rw [hy141]; with_reducible exact H2_) | (have H2_ := (Option.bind_some _ _).symm.trans H; with_reducible exact H2_) | with_reducible exact H | (rw [hy141]; exact H) | exact H
         have Ny141 := Aside0.mk hy141
         clear hy141
         by_cases c19 : 2 ≤ (x0_1.size : Int)
         ·rw [if_pos c19] at H
          have c19b0 := eq_true c19
          have c19b1 : decide (2 ≤ (x0_1.size : Int)) = true := decide_eq_true c19
          clear c19
          have H' := Aside0.mk H
          clear H
          try go_wp2
          have n0_ := Aside0.mk (Kd.R_drew HO_4.out)
          have n1_ := Aside0.mk (below_drew1 HB.out)
          clear HO_4
          clear HB
          have HO_4 := n0_
          have HB := n1_
          clear n0_ n1_
          have p13 : 0 ≤ (0 : Int) := (by omega)
          have q13 : 0 < x0_1.size := (by have : (0 : Int) < (x0_1.size : Int) := of_decide_eq_true (by first | (with_reducible assumption) | assumption); omega)
          have hx13 : ∀ h : 0 < x0_1.size, ((x0_1[0]'h).toNat : Int) = bt x0_1 0 := bt_at x0_1 0
          clear p13
          have qi13 : (0 < (x0_1.size : Int)) = True := eq_true (of_decide_eq_true (by first | (with_reducible assumption) | assumption))
          replace q13 := eq_true q13
          have p16 : 0 ≤ (1 : Int) := (by omega)
          have q16 : 1 < x0_1.size := (by have : (1 : Int) < (x0_1.size : Int) := of_decide_eq_true (by first | (with_reducible assumption) | assumption); omega)
          have hx16 : ∀ h : 1 < x0_1.size, ((x0_1[1]'h).toNat : Int) = bt x0_1 1 := bt_at x0_1 1
          clear p16
          have qi16 : (1 < (x0_1.size : Int)) = True := eq_true (of_decide_eq_true (by first | (with_reducible assumption) | assumption))
          replace q16 := eq_true q16
          refine start_ (n := 13) (S := fun w' => True) (ds := []) #[false, false, false, false, false, false, false, false, false, false, false, false, false] (by kernel_rfl) rfl rfl trivial (fun hHeld => ?_); refine with_tabW text_unhexed.tab3 text_unhexed.bits3 (fun HT_ HW_ => ?_)
          generalize wc.drew = w20 at HO_4 HB hHeld ⊢
          refine pure_ (i := 0) (N := some 20) (v := ?_) (a' := ?_) #[true, false, false, false, false, false, false, false, false, false, false, false, false] rfl rfl (any_of HT_.out (by kernel_rfl)) (fun _ _ _ h => h) (Or.inl ⟨by rfl, ?_⟩) ?_ ?_
          rotate_left
          ·intro w'
           go_simp
           with_reducible rfl
          rotate_left
          ·simp only [Act.put, List.setIfInBounds_toArray, List.set_cons_zero, List.set_cons_succ, i64_w, i32_w]
           rfl
          refine pure_ (i := 1) (N := some 21) (v := ?_) (a' := ?_) #[true, true, false, false, false, false, false, false, false, false, false, false, false] rfl rfl (any_of HT_.out (by kernel_rfl)) (fun _ _ _ h => h) (Or.inl ⟨by rfl, ?_⟩) ?_ ?_
          rotate_left
          ·intro w'
           go_simp
           with_reducible rfl
          rotate_left
          ·simp only [Act.put, List.setIfInBounds_toArray, List.set_cons_zero, List.set_cons_succ, i64_w, i32_w]
           rfl
          refine pure_ (i := 5) (N := some 25) (v := ?_) (a' := ?_) #[true, true, false, false, false, true, false, false, false, false, false, false, false] rfl rfl (any_of HT_.out (by kernel_rfl)) (fun _ _ _ h => h) (Or.inl ⟨by rfl, ?_⟩) ?_ ?_
          rotate_left
          ·intro w'
           go_simp
           with_reducible rfl
          rotate_left
          ·simp only [Act.put, List.setIfInBounds_toArray, List.set_cons_zero, List.set_cons_succ, i64_w, i32_w]
           rfl
          refine take_ (i := 2) (N := some 22) (v := ?_) (a' := ?_) #[true, true, true, false, false, true, false, false, false, false, false, false, false] rfl rfl (take_ofW HT_.out HW_.out (by kernel_rfl)) (fun _ _ _ h => h) (Or.inl ⟨by rfl, ?_⟩) hHeld ?_ ?_
          rotate_left
          ·intro w' _
           go_simp
           with_reducible rfl
          rotate_left
          ·simp only [Act.put, List.setIfInBounds_toArray, List.set_cons_zero, List.set_cons_succ, i64_w, i32_w]
           rfl
          refine take_ (i := 6) (N := some 26) (v := ?_) (a' := ?_) #[true, true, true, false, false, true, true, false, false, false, false, false, false] rfl rfl (take_ofW HT_.out HW_.out (by kernel_rfl)) (fun _ _ _ h => h) (Or.inl ⟨by rfl, ?_⟩) hHeld ?_ ?_
          rotate_left
          ·intro w' _
           go_simp
           with_reducible rfl
          rotate_left
          ·simp only [Act.put, List.setIfInBounds_toArray, List.set_cons_zero, List.set_cons_succ, i64_w, i32_w]
           rfl
          refine one_ (i := 3) (N := some 23) #[true, true, true, true, false, true, true, false, false, false, false, false, false] rfl rfl (one_of HT_.out (by kernel_rfl)) (by decide) (fun K hK => ?_)
          refine goes_ Tryd.func69 (by kernel_rfl) rfl #[.int .u8 (bt x0_1 0)] (by rfl) rfl rfl (by (try simp only [List.map_toArray, List.map_cons, List.map_nil]); first | done | rfl | (simp only [List.length_drop, List.length_take]; rfl)) ?_
          with_reducible refine (text_digit.calls (bt x0_1 0) t139 _ A14.out).mono ?_
          rintro e w' ⟨rfl, ⟨nd, rfl⟩⟩
          refine ⟨_, rfl, ?_⟩
          refine hK.out _ _ trivial (fun hHeld => ?_)
          clear hK K
          refine norm_ (a' := ?_) ?_ ?_
          rotate_left
          ·show Act.put _ (some 23) _ = _
           simp only [Act.put, List.setIfInBounds_toArray, List.set_cons_zero, List.set_cons_succ, i64_w, i32_w]
           rfl
          refine pure_ (i := 4) (N := some 24) (v := ?_) (a' := ?_) #[true, true, true, true, true, true, true, false, false, false, false, false, false] rfl rfl (any_of HT_.out (by kernel_rfl)) (fun _ _ _ h => h) (Or.inl ⟨by rfl, ?_⟩) ?_ ?_
          rotate_left
          ·intro w'
           go_simp
           with_reducible rfl
          rotate_left
          ·simp only [Act.put, List.setIfInBounds_toArray, List.set_cons_zero, List.set_cons_succ, i64_w, i32_w]
           rfl
          refine one_ (i := 7) (N := some 27) #[true, true, true, true, true, true, true, true, false, false, false, false, false] rfl rfl (one_of HT_.out (by kernel_rfl)) (by decide) (fun K hK => ?_)
          refine goes_ Tryd.func69 (by kernel_rfl) rfl #[.int .u8 (bt x0_1 1)] (by rfl) rfl rfl (by (try simp only [List.map_toArray, List.map_cons, List.map_nil]); first | done | rfl | (simp only [List.length_drop, List.length_take]; rfl)) ?_
          with_reducible refine (text_digit.calls (bt x0_1 1) t140 _ A17.out).mono ?_
          rintro e w' ⟨rfl, ⟨nd, rfl⟩⟩
          refine ⟨_, rfl, ?_⟩
          refine hK.out _ _ trivial (fun hHeld => ?_)
          clear hK K
          refine norm_ (a' := ?_) ?_ ?_
          rotate_left
          ·show Act.put _ (some 27) _ = _
           simp only [Act.put, List.setIfInBounds_toArray, List.set_cons_zero, List.set_cons_succ, i64_w, i32_w]
           rfl
          refine pure_ (i := 8) (N := some 28) (v := ?_) (a' := ?_) #[true, true, true, true, true, true, true, true, true, false, false, false, false] rfl rfl (any_of HT_.out (by kernel_rfl)) (fun _ _ _ h => h) (Or.inl ⟨by rfl, ?_⟩) ?_ ?_
          rotate_left
          ·intro w'
           go_simp
           with_reducible rfl
          rotate_left
          ·simp only [Act.put, List.setIfInBounds_toArray, List.set_cons_zero, List.set_cons_succ, i64_w, i32_w]
           rfl
          refine pure_ (i := 9) (N := some 29) (v := ?_) (a' := ?_) #[true, true, true, true, true, true, true, true, true, true, false, false, false] rfl rfl (any_of HT_.out (by kernel_rfl)) (fun _ _ _ h => h) (Or.inl ⟨by rfl, ?_⟩) ?_ ?_
          rotate_left
          ·intro w'
           go_simp
           with_reducible rfl
          rotate_left
          ·simp only [Act.put, List.setIfInBounds_toArray, List.set_cons_zero, List.set_cons_succ, i64_w, i32_w]
           rfl
          refine one_ (i := 10) (N := some 30) #[true, true, true, true, true, true, true, true, true, true, true, false, false] rfl rfl (one_of HT_.out (by kernel_rfl)) (by decide) (fun K hK => ?_)
          refine value_ (w1 := ?_) (v := ?_) (by rfl) rfl ?_ ?_
          rotate_left 2
          ·go_simp
           constructor
           ·rfl
           ·rfl
          refine hK.out _ _ trivial (fun hHeld => ?_)
          clear hK K
          refine norm_ (a' := ?_) ?_ ?_
          rotate_left
          ·show Act.put _ (some 30) _ = _
           simp only [Act.put, List.setIfInBounds_toArray, List.set_cons_zero, List.set_cons_succ, i64_w, i32_w]
           rfl
          refine one_ (i := 11) (N := some 31) #[true, true, true, true, true, true, true, true, true, true, true, true, false] rfl rfl (one_of HT_.out (by kernel_rfl)) (by decide) (fun K hK => ?_)
          refine Kd.R_append_step (Kd.int .u8) (w0 := w) w.heap.size (by rfl) (.tmp 20) (.tmp 30) 57 5 (.int .u8 0) 1 rfl Tryd.underlying57 info5 rfl (by decide) (by omega) u4 x4_1 ((Go.bits .or .i64 (wrap64 (t139 * 16)) t140) % 256) [.int .u8 ((Go.bits .or .i64 (wrap64 (t139 * 16)) t140) % 256)] (fun _ => True) (fun _ => False) rfl rfl ?aP (fun _ hk => hk.elim) ?aF ?aO ?aB ?aS ?aL ?_
          (case aP => exact rfl)
          (case aB => exact (by repeat (first | (with_reducible first | exact HB.out | apply below_alloc | apply pw_below_drewN | apply below_drew1) | exact HB.out)))
          (case aF => exact (fun _ _ => trivial))
          (case aO => exact (by (with_reducible repeat (first | apply Kd.R_alloc | apply Kd.R_drewN | apply Kd.R_drew)); exact HO_4.out))
          (case aS => exact (below_size (by repeat (first | (with_reducible first | exact HB.out | apply below_alloc | apply pw_below_drewN | apply below_drew1) | exact HB.out))))
          (case aL => have := LMc18.out; omega)
          intro v142 w21 ho hb hg hat
          rw [← Ny141.out] at ho
          have n0_ := Aside0.mk (hb)
          have n1_ := Aside0.mk (ho)
          clear HB
          clear HO_4
          have HB := n0_
          have HO143 := n1_
          clear n0_ n1_
          clear ho hb hg hat
          refine hK.out _ _ trivial (fun hHeld => ?_)
          clear hK K
          refine norm_ (a' := ?_) ?_ ?_
          rotate_left
          ·show Act.put _ (some 31) _ = _
           simp only [Act.put, List.setIfInBounds_toArray, List.set_cons_zero, List.set_cons_succ, i64_w, i32_w]
           rfl
          refine pure_ (i := 12) (N := some 4) (v := ?_) (a' := ?_) #[true, true, true, true, true, true, true, true, true, true, true, true, true] rfl rfl (any_of HT_.out (by kernel_rfl)) (fun _ _ _ h => h) (Or.inl ⟨by rfl, ?_⟩) ?_ ?_
          rotate_left
          ·intro w'
           go_simp
           with_reducible rfl
          rotate_left
          ·simp only [Act.put, List.setIfInBounds_toArray, List.set_cons_zero, List.set_cons_succ, i64_w, i32_w]
           rfl
          refine done_ (done_of HT_.out (by kernel_rfl)) ?_
          try go_wp2
          go_roundg kj1
          case measure => have := HK1.out; have := HJ1.out; omega
          case rel => exact ⟨(x0_1.extract 2 x0_1.size), (y141), (by first | rfl | (simp; done) | (simp [*]; done)), H', ⟨by have := HK1.out; have := HJ1.out; omega⟩, ⟨by (with_reducible repeat (first | apply Kd.R_alloc | apply Kd.R_drewN | apply Kd.R_drew)); exact HO143.out⟩, ⟨by repeat (first | (with_reducible first | exact HB.out | apply below_alloc | apply pw_below_drewN | apply below_drew1) | exact HB.out)⟩⟩
         ·rw [if_neg c19] at H
          exact absurd H (by simp)
        ·rw [if_neg c18] at H
         exact absurd H (by simp)
       ·rw [if_neg c15] at H
        exact absurd H (by simp)
      ·rw [if_neg c12] at H
       exact absurd H (by simp)
     ·replace c11 := Bool.eq_false_iff.mpr c11
      subst c11
      have H1 : (some (strOfNums x4_1, x0_1)) = some (r1, r2) := by rw [if_neg (show ¬ (false = true) by decide)] at H; exact H
      clear H
      have H := H1
      clear H1
      simp only [Option.some.injEq, Prod.mk.injEq] at H
      obtain ⟨rfl, rfl⟩ := H
      have hcv22 := own_string (P := Tryd.prog) Tryd.underlying57 Tryd.underlying5 Tryd.underlying9 (Kd.own_of_R HO_4.out)
      go_wp2
      go_ret2
      exact ⟨by first | rfl | (simp [errW_none, errW_some] <;> rfl) | (simp [*, errW_none, errW_some] <;> rfl), by repeat (first | (with_reducible first | exact HB.out | apply below_alloc | apply pw_below_drewN | apply below_drew1) | exact HB.out)⟩
end Go.Proofs.YtpjfhdbkkomogaaDoor.Px
