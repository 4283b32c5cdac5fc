/- Of the law's runs, those at which the first argument leaves 19 (by 20): one run of the executor for each residue of the second one (by 3). -/
import Derived.Test.YtocjkllkjbehgaaGreatDoorEx3
import Derived.Test.YtocjkllkjbehgaaGreatDoorProg
import Derived.KernelRfl
namespace Go.Ex
open Go.Proofs

theorem run19_0 : lawF Tryz.prog 64 20000 3 [u8s 20 19, u8s 3 0] = true := by kernel_rfl
theorem run19_1 : lawF Tryz.prog 64 20000 3 [u8s 20 19, u8s 3 1] = true := by kernel_rfl
theorem run19_2 : lawF Tryz.prog 64 20000 3 [u8s 20 19, u8s 3 2] = true := by kernel_rfl
theorem run19 : ∀ s : Nat, s < 3 → lawF Tryz.prog 64 20000 3 [u8s 20 19, u8s 3 s] = true
  | 0, _ => run19_0
  | 1, _ => run19_1
  | 2, _ => run19_2
  | _ + 3, h => absurd h (by omega)

end Go.Ex
