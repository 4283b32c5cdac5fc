/- Of the law's runs, some: one run of the executor for each choice of the arguments' residues. -/
import Derived.Test.YtimcnmojmbnafaaGreatDoorIntr
import Derived.KernelRfl
namespace Go.Ex
open Go.Proofs

theorem run0_0 : lawG Tryz.prog 64 20000 3 [u8s 6 0, u8s 2 0] 0 handle = true := by kernel_rfl
theorem run0_1 : lawG Tryz.prog 64 20000 3 [u8s 6 0, u8s 2 1] 0 handle = true := by kernel_rfl
theorem run1_0 : lawG Tryz.prog 64 20000 3 [u8s 6 1, u8s 4 0] 0 handle = true := by kernel_rfl
theorem run1_1 : lawG Tryz.prog 64 20000 3 [u8s 6 1, u8s 4 1] 0 handle = true := by kernel_rfl
theorem run1_2 : lawG Tryz.prog 64 20000 3 [u8s 6 1, u8s 4 2] 0 handle = true := by kernel_rfl
theorem run1_3 : lawG Tryz.prog 64 20000 3 [u8s 6 1, u8s 4 3] 0 handle = true := by kernel_rfl
theorem run2_0 : lawG Tryz.prog 64 20000 3 [u8s 6 2, u8s 8 0] 0 handle = true := by kernel_rfl
theorem run2_1 : lawG Tryz.prog 64 20000 3 [u8s 6 2, u8s 8 1] 0 handle = true := by kernel_rfl
theorem run2_2 : lawG Tryz.prog 64 20000 3 [u8s 6 2, u8s 8 2] 0 handle = true := by kernel_rfl
theorem run2_3 : lawG Tryz.prog 64 20000 3 [u8s 6 2, u8s 8 3] 0 handle = true := by kernel_rfl
theorem run2_4 : lawG Tryz.prog 64 20000 3 [u8s 6 2, u8s 8 4] 0 handle = true := by kernel_rfl
theorem run2_5 : lawG Tryz.prog 64 20000 3 [u8s 6 2, u8s 8 5] 0 handle = true := by kernel_rfl
theorem run2_6 : lawG Tryz.prog 64 20000 3 [u8s 6 2, u8s 8 6] 0 handle = true := by kernel_rfl
theorem run2_7 : lawG Tryz.prog 64 20000 3 [u8s 6 2, u8s 8 7] 0 handle = true := by kernel_rfl
theorem run3_0 : lawG Tryz.prog 64 20000 3 [u8s 6 3, u8s 16 0] 0 handle = true := by kernel_rfl
theorem run3_1 : lawG Tryz.prog 64 20000 3 [u8s 6 3, u8s 16 1] 0 handle = true := by kernel_rfl

end Go.Ex
