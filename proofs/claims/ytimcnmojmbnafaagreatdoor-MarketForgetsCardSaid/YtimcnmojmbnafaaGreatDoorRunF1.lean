/- Of the law's runs, some: one run of the executor for each choice of the arguments' residues. -/
import Derived.Test.YtimcnmojmbnafaaGreatDoorIntr
import Derived.KernelRfl
namespace Go.Ex
open Go.Proofs

theorem run3_2 : lawG Tryz.prog 64 20000 3 [u8s 6 3, u8s 16 2] 0 handle = true := by kernel_rfl
theorem run3_3 : lawG Tryz.prog 64 20000 3 [u8s 6 3, u8s 16 3] 0 handle = true := by kernel_rfl
theorem run3_4 : lawG Tryz.prog 64 20000 3 [u8s 6 3, u8s 16 4] 0 handle = true := by kernel_rfl
theorem run3_5 : lawG Tryz.prog 64 20000 3 [u8s 6 3, u8s 16 5] 0 handle = true := by kernel_rfl
theorem run3_6 : lawG Tryz.prog 64 20000 3 [u8s 6 3, u8s 16 6] 0 handle = true := by kernel_rfl
theorem run3_7 : lawG Tryz.prog 64 20000 3 [u8s 6 3, u8s 16 7] 0 handle = true := by kernel_rfl
theorem run3_8 : lawG Tryz.prog 64 20000 3 [u8s 6 3, u8s 16 8] 0 handle = true := by kernel_rfl
theorem run3_9 : lawG Tryz.prog 64 20000 3 [u8s 6 3, u8s 16 9] 0 handle = true := by kernel_rfl
theorem run3_10 : lawG Tryz.prog 64 20000 3 [u8s 6 3, u8s 16 10] 0 handle = true := by kernel_rfl
theorem run3_11 : lawG Tryz.prog 64 20000 3 [u8s 6 3, u8s 16 11] 0 handle = true := by kernel_rfl
theorem run3_12 : lawG Tryz.prog 64 20000 3 [u8s 6 3, u8s 16 12] 0 handle = true := by kernel_rfl
theorem run3_13 : lawG Tryz.prog 64 20000 3 [u8s 6 3, u8s 16 13] 0 handle = true := by kernel_rfl
theorem run3_14 : lawG Tryz.prog 64 20000 3 [u8s 6 3, u8s 16 14] 0 handle = true := by kernel_rfl
theorem run3_15 : lawG Tryz.prog 64 20000 3 [u8s 6 3, u8s 16 15] 0 handle = true := by kernel_rfl
theorem run4_0 : lawG Tryz.prog 64 20000 3 [u8s 6 4, u8s 32 0] 0 handle = true := by kernel_rfl
theorem run4_1 : lawG Tryz.prog 64 20000 3 [u8s 6 4, u8s 32 1] 0 handle = true := by kernel_rfl

end Go.Ex
