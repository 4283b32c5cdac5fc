/- Of the law's runs, those at which the first argument leaves 3 (by 10): one run of the executor for each residue of the second one (by 10). -/
import Derived.Test.YtjcojioholgcfaaGreatDoorEx3
import Derived.Test.YtjcojioholgcfaaGreatDoorProg
import Derived.KernelRfl
namespace Go.Ex
open Go.Proofs

theorem run3_0 : lawRun Tryz.prog 20 5000 3 [u8s 10 3, u8s 10 0] = true := by kernel_rfl
theorem run3_1 : lawRun Tryz.prog 20 5000 3 [u8s 10 3, u8s 10 1] = true := by kernel_rfl
theorem run3_2 : lawRun Tryz.prog 20 5000 3 [u8s 10 3, u8s 10 2] = true := by kernel_rfl
theorem run3_3 : lawRun Tryz.prog 20 5000 3 [u8s 10 3, u8s 10 3] = true := by kernel_rfl
theorem run3_4 : lawRun Tryz.prog 20 5000 3 [u8s 10 3, u8s 10 4] = true := by kernel_rfl
theorem run3_5 : lawRun Tryz.prog 20 5000 3 [u8s 10 3, u8s 10 5] = true := by kernel_rfl
theorem run3_6 : lawRun Tryz.prog 20 5000 3 [u8s 10 3, u8s 10 6] = true := by kernel_rfl
theorem run3_7 : lawRun Tryz.prog 20 5000 3 [u8s 10 3, u8s 10 7] = true := by kernel_rfl
theorem run3_8 : lawRun Tryz.prog 20 5000 3 [u8s 10 3, u8s 10 8] = true := by kernel_rfl
theorem run3_9 : lawRun Tryz.prog 20 5000 3 [u8s 10 3, u8s 10 9] = true := by kernel_rfl
theorem run3 : ∀ s : Nat, s < 10 → lawRun Tryz.prog 20 5000 3 [u8s 10 3, u8s 10 s] = true
  | 0, _ => run3_0
  | 1, _ => run3_1
  | 2, _ => run3_2
  | 3, _ => run3_3
  | 4, _ => run3_4
  | 5, _ => run3_5
  | 6, _ => run3_6
  | 7, _ => run3_7
  | 8, _ => run3_8
  | 9, _ => run3_9
  | _ + 10, h => absurd h (by omega)

end Go.Ex
