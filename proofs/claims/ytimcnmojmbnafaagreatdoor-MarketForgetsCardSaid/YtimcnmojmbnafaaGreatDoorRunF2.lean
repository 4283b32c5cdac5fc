/- Of the law's runs, some: one run of the executor for each choice of the arguments' residues. -/
import Derived.Test.YtimcnmojmbnafaaGreatDoorIntr
import Derived.KernelRfl
namespace Go.Ex
open Go.Proofs

theorem run4_2 : lawG Tryz.prog 64 20000 3 [u8s 6 4, u8s 32 2] 0 handle = true := by kernel_rfl
theorem run4_3 : lawG Tryz.prog 64 20000 3 [u8s 6 4, u8s 32 3] 0 handle = true := by kernel_rfl
theorem run4_4 : lawG Tryz.prog 64 20000 3 [u8s 6 4, u8s 32 4] 0 handle = true := by kernel_rfl
theorem run4_5 : lawG Tryz.prog 64 20000 3 [u8s 6 4, u8s 32 5] 0 handle = true := by kernel_rfl
theorem run4_6 : lawG Tryz.prog 64 20000 3 [u8s 6 4, u8s 32 6] 0 handle = true := by kernel_rfl
theorem run4_7 : lawG Tryz.prog 64 20000 3 [u8s 6 4, u8s 32 7] 0 handle = true := by kernel_rfl
theorem run4_8 : lawG Tryz.prog 64 20000 3 [u8s 6 4, u8s 32 8] 0 handle = true := by kernel_rfl
theorem run4_9 : lawG Tryz.prog 64 20000 3 [u8s 6 4, u8s 32 9] 0 handle = true := by kernel_rfl
theorem run4_10 : lawG Tryz.prog 64 20000 3 [u8s 6 4, u8s 32 10] 0 handle = true := by kernel_rfl
theorem run4_11 : lawG Tryz.prog 64 20000 3 [u8s 6 4, u8s 32 11] 0 handle = true := by kernel_rfl
theorem run4_12 : lawG Tryz.prog 64 20000 3 [u8s 6 4, u8s 32 12] 0 handle = true := by kernel_rfl
theorem run4_13 : lawG Tryz.prog 64 20000 3 [u8s 6 4, u8s 32 13] 0 handle = true := by kernel_rfl
theorem run4_14 : lawG Tryz.prog 64 20000 3 [u8s 6 4, u8s 32 14] 0 handle = true := by kernel_rfl
theorem run4_15 : lawG Tryz.prog 64 20000 3 [u8s 6 4, u8s 32 15] 0 handle = true := by kernel_rfl
theorem run4_16 : lawG Tryz.prog 64 20000 3 [u8s 6 4, u8s 32 16] 0 handle = true := by kernel_rfl
theorem run4_17 : lawG Tryz.prog 64 20000 3 [u8s 6 4, u8s 32 17] 0 handle = true := by kernel_rfl

end Go.Ex
