/- Of the law's runs, those at which the first argument leaves 0 (by 10): one run of the executor for each residue of the second one (by 10). -/
import Derived.Test.YtjcojioholgcfaaGreatDoorEx3
import Derived.Test.YtjcojioholgcfaaGreatDoorProg
import Derived.KernelRfl
namespace Go.Ex
open Go.Proofs

theorem run0_0 : lawRun Tryz.prog 20 5000 3 [u8s 10 0, u8s 10 0] = true := by kernel_rfl
theorem run0_1 : lawRun Tryz.prog 20 5000 3 [u8s 10 0, u8s 10 1] = true := by kernel_rfl
theorem run0_2 : lawRun Tryz.prog 20 5000 3 [u8s 10 0, u8s 10 2] = true := by kernel_rfl
theorem run0_3 : lawRun Tryz.prog 20 5000 3 [u8s 10 0, u8s 10 3] = true := by kernel_rfl
theorem run0_4 : lawRun Tryz.prog 20 5000 3 [u8s 10 0, u8s 10 4] = true := by kernel_rfl
theorem run0_5 : lawRun Tryz.prog 20 5000 3 [u8s 10 0, u8s 10 5] = true := by kernel_rfl
theorem run0_6 : lawRun Tryz.prog 20 5000 3 [u8s 10 0, u8s 10 6] = true := by kernel_rfl
theorem run0_7 : lawRun Tryz.prog 20 5000 3 [u8s 10 0, u8s 10 7] = true := by kernel_rfl
theorem run0_8 : lawRun Tryz.prog 20 5000 3 [u8s 10 0, u8s 10 8] = true := by kernel_rfl
theorem run0_9 : lawRun Tryz.prog 20 5000 3 [u8s 10 0, u8s 10 9] = true := by kernel_rfl
theorem run0 : ∀ s : Nat, s < 10 → lawRun Tryz.prog 20 5000 3 [u8s 10 0, u8s 10 s] = true
  | 0, _ => run0_0
  | 1, _ => run0_1
  | 2, _ => run0_2
  | 3, _ => run0_3
  | 4, _ => run0_4
  | 5, _ => run0_5
  | 6, _ => run0_6
  | 7, _ => run0_7
  | 8, _ => run0_8
  | 9, _ => run0_9
  | _ + 10, h => absurd h (by omega)

end Go.Ex
