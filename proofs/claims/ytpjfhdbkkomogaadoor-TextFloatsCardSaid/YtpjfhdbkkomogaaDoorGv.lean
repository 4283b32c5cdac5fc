import Derived.Test.YtpjfhdbkkomogaaDoorLay
import Derived.Test.YtpjfhdbkkomogaaDoorWWords
import Derived.Test.YtpjfhdbkkomogaaDoorWMore
import Derived.WalkKit
import Derived.Tactics
import Derived.Lib.Bytealg
import Derived.KernelRfl
import Derived.Laws.BitsLemmas
namespace Go.Proofs.YtpjfhdbkkomogaaDoor.Gvn
open Go.RowKit Go.Proofs.YtpjfhdbkkomogaaDoorW.PrintWords Go.Proofs.YtpjfhdbkkomogaaDoorW.PrintLast Go.Proofs.YtpjfhdbkkomogaaDoorW.PrintMore
theorem run_store_float {P : Program} {w : World} {a : Addr} {m : Mode} (k : FloatKind) (n : Nat) : (store a (.float k n) m).run P w = stored P w a (.float k n) m := run_store P w a _ m rfl
/-- strings.IndexByte, by the library's contract. -/
def strings_IndexByte.f (a0 : ByteArray) (a1 : Int) : Option (Int) := some (Lib.indexByte a0.data.toList a1.toNat.toUInt8)
theorem strings_IndexByte.calls (a0 : ByteArray) (a1 : Int) (r : Int) (w : World) (h : strings_IndexByte.f a0 a1 = some r) :
    Calls Tryd.prog 82 #[.string a0, .int .u8 a1] w fun e w' => e = .returned (.int .i64 r) ∧ Drawn0 w w' := by
  obtain rfl := Option.some.inj h
  exact (Any.strings_IndexByte Tryd.ib137 a0 a1 w).mono fun e w' ⟨he, hw⟩ => ⟨he, by subst hw; exact Drawn0.refl _⟩
theorem gv23 (b : Nat) (w : World) : (callFunc 23 #[.float .f64 b]).run Tryd.prog w = .ok (.value (.int .u64 b)) w := by kernel_rfl
theorem u64_nat (n : Nat) (h : n < 18446744073709551616) : IntKind.u64.wrap (n : Int) = n := by simp [IntKind.wrap, IntKind.bits, IntKind.signed]; omega
theorem bv_nat (n : Nat) (h : n < 18446744073709551616) : (BitVec.ofInt 64 (n : Int)).toNat = n := by simp; omega
theorem testBit63 (a : Nat) (h : a < 18446744073709551616) : a &&& 9223372036854775808 = if a < 9223372036854775808 then 0 else 9223372036854775808 := by
  have key : a &&& 2 ^ 63 = if a < 2 ^ 63 then 0 else 2 ^ 63 := by
    apply Nat.eq_of_testBit_eq
    intro i
    rw [Nat.testBit_and, Nat.testBit_two_pow]
    by_cases h63 : i = 63
    · subst h63
      by_cases hlt : a < 2 ^ 63
      · rw [if_pos hlt, Nat.testBit_lt_two_pow hlt]; simp
      · rw [if_neg hlt, Nat.testBit_two_pow]
        have : a.testBit 63 = true := by
          rw [Nat.testBit_eq_decide_div_mod_eq]; simp; omega
        simp [this]
    · rw [decide_eq_false (Ne.symm h63), Bool.and_false]
      split
      · simp
      · rw [Nat.testBit_two_pow, decide_eq_false (Ne.symm h63)]
  exact key
theorem and63 (a : Nat) (h : a < 18446744073709551616) : Go.bits .and .u64 (a : Int) 9223372036854775808 = if a < 9223372036854775808 then 0 else 9223372036854775808 := by
  have e : (BitVec.ofInt 64 (a : Int) &&& BitVec.ofInt 64 9223372036854775808).toNat = if a < 9223372036854775808 then 0 else 9223372036854775808 := by
    rw [BitVec.toNat_and, bv_nat a h, ← testBit63 a h]; rfl
  show IntKind.u64.wrap ((BitVec.ofInt 64 (a : Int) &&& BitVec.ofInt 64 9223372036854775808).toNat : Int) = _
  rw [e]
  split <;> rfl
theorem or63 (a : Nat) (h : a < 9223372036854775808) : Go.bits .or .u64 (a : Int) 9223372036854775808 = ((a + 9223372036854775808 : Nat) : Int) := by
  have e : (BitVec.ofInt 64 (a : Int) ||| BitVec.ofInt 64 9223372036854775808).toNat = a + 9223372036854775808 := by
    rw [BitVec.toNat_or, bv_nat a (by omega)]
    show a ||| 2 ^ 63 = a + 2 ^ 63
    have h' : a < 2 ^ 63 := h
    have := Nat.two_pow_add_eq_or_of_lt h' 1
    rw [Nat.mul_one] at this
    rw [Nat.or_comm, ← this, Nat.add_comm]
  show IntKind.u64.wrap ((BitVec.ofInt 64 (a : Int) ||| BitVec.ofInt 64 9223372036854775808).toNat : Int) = _
  rw [e, u64_nat _ (by omega)]
theorem xor63 (a : Nat) (h : a < 18446744073709551616) : Go.bits .xor .u64 IntKind.u64.max (a : Int) = 18446744073709551615 - (a : Int) := by
  have e : (BitVec.ofInt 64 IntKind.u64.max ^^^ BitVec.ofInt 64 (a : Int)).toNat = 18446744073709551615 - a := by
    have h1 : BitVec.ofInt 64 IntKind.u64.max = BitVec.allOnes 64 := by decide
    rw [h1, BitVec.allOnes_xor, BitVec.toNat_not, bv_nat a h]
  show IntKind.u64.wrap ((BitVec.ofInt 64 IntKind.u64.max ^^^ BitVec.ofInt 64 (a : Int)).toNat : Int) = _
  rw [e, u64_nat _ (by omega)]
  omega
def bits_Order.f (a0 : Nat) : Option (Int) := if a0 < 18446744073709551616 then some (if a0 < 9223372036854775808 then a0 + 9223372036854775808 else 18446744073709551615 - a0) else none
set_option maxRecDepth 100000 in
theorem bits_Order.calls (a0 : Nat) (r : Int) (w : World) (h : bits_Order.f a0 = some r) :
    Calls Tryd.prog 39 #[.float .f64 a0] w fun e w' => e = .returned (.int .u64 r) ∧ Drawn0 w w' := by
  unfold bits_Order.f at h
  split at h
  · rename_i hlt
    have hr := Option.some.inj h
    have ha := and63 a0 hlt
    have k23 := gv23 a0
    by_cases hs : a0 < 9223372036854775808
    · rw [if_pos hs] at ha hr
      have ho := or63 a0 hs
      have hb : (Go.bits .and .u64 (a0 : Int) 9223372036854775808 != 0) = false := by rw [ha]; rfl
      have ho' : Go.bits .or .u64 (a0 : Int) 9223372036854775808 = r := by rw [ho, ← hr]; rfl
      clear ha ho hr h hs hlt
      go_enter Tryd.func39, Tryd.ntmps39
      go_wp2
      go_ret
      exact ⟨rfl, Drawn0.refl _⟩
    · rw [if_neg hs] at ha hr
      have hb : (Go.bits .and .u64 (a0 : Int) 9223372036854775808 != 0) = true := by rw [ha]; rfl
      have hx : Go.bits .xor .u64 IntKind.u64.max (a0 : Int) = r := by rw [xor63 a0 hlt, hr]
      have hu : IntKind.u64.signed = false := rfl
      clear ha h hs hr hlt
      go_enter Tryd.func39, Tryd.ntmps39
      go_wp2
      go_ret
      exact ⟨rfl, Drawn0.refl _⟩
  · cases h
def rialtoref1_Order.f (a0 : Nat) : Option (Int) := if a0 < 18446744073709551616 then some (if a0 < 9223372036854775808 then a0 + 9223372036854775808 else 18446744073709551615 - a0) else none
set_option maxRecDepth 100000 in
theorem rialtoref1_Order.calls (a0 : Nat) (r : Int) (w : World) (h : rialtoref1_Order.f a0 = some r) :
    Calls Tryd.prog 74 #[.float .f64 a0] w fun e w' => e = .returned (.int .u64 r) ∧ Drawn0 w w' := by
  unfold rialtoref1_Order.f at h
  split at h
  · rename_i hlt
    have hr := Option.some.inj h
    have k23 := gv23 a0
    have hu : IntKind.u64.signed = false := rfl
    by_cases hs : a0 < 9223372036854775808
    · rw [if_pos hs] at hr
      have ho := or63 a0 hs
      have hb : ((a0 : Int) / 9223372036854775808 == 0) = true := by simp; omega
      have ho' : Go.bits .or .u64 (a0 : Int) 9223372036854775808 = r := by rw [ho, ← hr]; rfl
      clear ho hr h hs hlt
      go_enter Tryd.func74, Tryd.ntmps74
      go_wp2
      go_ret
      exact ⟨rfl, Drawn0.refl _⟩
    · rw [if_neg hs] at hr
      have hb : ((a0 : Int) / 9223372036854775808 == 0) = false := by simp; omega
      have hx : Go.bits .xor .u64 IntKind.u64.max (a0 : Int) = r := by rw [xor63 a0 hlt, hr]
      clear h hs hr hlt
      go_enter Tryd.func74, Tryd.ntmps74
      go_wp2
      go_ret
      exact ⟨rfl, Drawn0.refl _⟩
  · cases h
end Go.Proofs.YtpjfhdbkkomogaaDoor.Gvn
