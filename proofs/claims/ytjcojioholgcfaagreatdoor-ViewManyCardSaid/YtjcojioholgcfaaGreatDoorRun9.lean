/- Of the law's runs, those at which the first argument leaves 9 (by 10): one run of the executor for each residue of the second one (by 10). -/
import Derived.Test.YtjcojioholgcfaaGreatDoorEx3
import Derived.Test.YtjcojioholgcfaaGreatDoorProg
import Derived.KernelRfl
namespace Go.Ex
open Go.Proofs

theorem run9_0 : lawRun Tryz.prog 20 5000 3 [u8s 10 9, u8s 10 0] = true := by kernel_rfl
theorem run9_1 : lawRun Tryz.prog 20 5000 3 [u8s 10 9, u8s 10 1] = true := by kernel_rfl
theorem run9_2 : lawRun Tryz.prog 20 5000 3 [u8s 10 9, u8s 10 2] = true := by kernel_rfl
theorem run9_3 : lawRun Tryz.prog 20 5000 3 [u8s 10 9, u8s 10 3] = true := by kernel_rfl
theorem run9_4 : lawRun Tryz.prog 20 5000 3 [u8s 10 9, u8s 10 4] = true := by kernel_rfl
theorem run9_5 : lawRun Tryz.prog 20 5000 3 [u8s 10 9, u8s 10 5] = true := by kernel_rfl
theorem run9_6 : lawRun Tryz.prog 20 5000 3 [u8s 10 9, u8s 10 6] = true := by kernel_rfl
theorem run9_7 : lawRun Tryz.prog 20 5000 3 [u8s 10 9, u8s 10 7] = true := by kernel_rfl
theorem run9_8 : lawRun Tryz.prog 20 5000 3 [u8s 10 9, u8s 10 8] = true := by kernel_rfl
theorem run9_9 : lawRun Tryz.prog 20 5000 3 [u8s 10 9, u8s 10 9] = true := by kernel_rfl
theorem run9 : ∀ s : Nat, s < 10 → lawRun Tryz.prog 20 5000 3 [u8s 10 9, u8s 10 s] = true
  | 0, _ => run9_0
  | 1, _ => run9_1
  | 2, _ => run9_2
  | 3, _ => run9_3
  | 4, _ => run9_4
  | 5, _ => run9_5
  | 6, _ => run9_6
  | 7, _ => run9_7
  | 8, _ => run9_8
  | 9, _ => run9_9
  | _ + 10, h => absurd h (by omega)

end Go.Ex
