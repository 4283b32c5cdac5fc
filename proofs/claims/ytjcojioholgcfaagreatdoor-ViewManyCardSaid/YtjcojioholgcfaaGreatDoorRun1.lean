/- Of the law's runs, those at which the first argument leaves 1 (by 10): one run of the executor for each residue of the second one (by 10). -/
import Derived.Test.YtjcojioholgcfaaGreatDoorEx3
import Derived.Test.YtjcojioholgcfaaGreatDoorProg
import Derived.KernelRfl
namespace Go.Ex
open Go.Proofs

theorem run1_0 : lawRun Tryz.prog 20 5000 3 [u8s 10 1, u8s 10 0] = true := by kernel_rfl
theorem run1_1 : lawRun Tryz.prog 20 5000 3 [u8s 10 1, u8s 10 1] = true := by kernel_rfl
theorem run1_2 : lawRun Tryz.prog 20 5000 3 [u8s 10 1, u8s 10 2] = true := by kernel_rfl
theorem run1_3 : lawRun Tryz.prog 20 5000 3 [u8s 10 1, u8s 10 3] = true := by kernel_rfl
theorem run1_4 : lawRun Tryz.prog 20 5000 3 [u8s 10 1, u8s 10 4] = true := by kernel_rfl
theorem run1_5 : lawRun Tryz.prog 20 5000 3 [u8s 10 1, u8s 10 5] = true := by kernel_rfl
theorem run1_6 : lawRun Tryz.prog 20 5000 3 [u8s 10 1, u8s 10 6] = true := by kernel_rfl
theorem run1_7 : lawRun Tryz.prog 20 5000 3 [u8s 10 1, u8s 10 7] = true := by kernel_rfl
theorem run1_8 : lawRun Tryz.prog 20 5000 3 [u8s 10 1, u8s 10 8] = true := by kernel_rfl
theorem run1_9 : lawRun Tryz.prog 20 5000 3 [u8s 10 1, u8s 10 9] = true := by kernel_rfl
theorem run1 : ∀ s : Nat, s < 10 → lawRun Tryz.prog 20 5000 3 [u8s 10 1, u8s 10 s] = true
  | 0, _ => run1_0
  | 1, _ => run1_1
  | 2, _ => run1_2
  | 3, _ => run1_3
  | 4, _ => run1_4
  | 5, _ => run1_5
  | 6, _ => run1_6
  | 7, _ => run1_7
  | 8, _ => run1_8
  | 9, _ => run1_9
  | _ + 10, h => absurd h (by omega)

end Go.Ex
