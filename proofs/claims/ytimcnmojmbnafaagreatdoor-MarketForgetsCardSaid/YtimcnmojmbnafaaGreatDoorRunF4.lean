/- Of the law's runs, some: one run of the executor for each choice of the arguments' residues. -/
import Derived.Test.YtimcnmojmbnafaaGreatDoorIntr
import Derived.KernelRfl
namespace Go.Ex
open Go.Proofs

theorem run5_2 : lawG Tryz.prog 64 20000 3 [u8s 6 5, u8s 64 2] 0 handle = true := by kernel_rfl
theorem run5_3 : lawG Tryz.prog 64 20000 3 [u8s 6 5, u8s 64 3] 0 handle = true := by kernel_rfl
theorem run5_4 : lawG Tryz.prog 64 20000 3 [u8s 6 5, u8s 64 4] 0 handle = true := by kernel_rfl
theorem run5_5 : lawG Tryz.prog 64 20000 3 [u8s 6 5, u8s 64 5] 0 handle = true := by kernel_rfl
theorem run5_6 : lawG Tryz.prog 64 20000 3 [u8s 6 5, u8s 64 6] 0 handle = true := by kernel_rfl
theorem run5_7 : lawG Tryz.prog 64 20000 3 [u8s 6 5, u8s 64 7] 0 handle = true := by kernel_rfl
theorem run5_8 : lawG Tryz.prog 64 20000 3 [u8s 6 5, u8s 64 8] 0 handle = true := by kernel_rfl
theorem run5_9 : lawG Tryz.prog 64 20000 3 [u8s 6 5, u8s 64 9] 0 handle = true := by kernel_rfl
theorem run5_10 : lawG Tryz.prog 64 20000 3 [u8s 6 5, u8s 64 10] 0 handle = true := by kernel_rfl
theorem run5_11 : lawG Tryz.prog 64 20000 3 [u8s 6 5, u8s 64 11] 0 handle = true := by kernel_rfl
theorem run5_12 : lawG Tryz.prog 64 20000 3 [u8s 6 5, u8s 64 12] 0 handle = true := by kernel_rfl
theorem run5_13 : lawG Tryz.prog 64 20000 3 [u8s 6 5, u8s 64 13] 0 handle = true := by kernel_rfl
theorem run5_14 : lawG Tryz.prog 64 20000 3 [u8s 6 5, u8s 64 14] 0 handle = true := by kernel_rfl
theorem run5_15 : lawG Tryz.prog 64 20000 3 [u8s 6 5, u8s 64 15] 0 handle = true := by kernel_rfl
theorem run5_16 : lawG Tryz.prog 64 20000 3 [u8s 6 5, u8s 64 16] 0 handle = true := by kernel_rfl
theorem run5_17 : lawG Tryz.prog 64 20000 3 [u8s 6 5, u8s 64 17] 0 handle = true := by kernel_rfl

end Go.Ex
