/- Of the law's runs, some: one run of the executor for each choice of the arguments' residues. -/
import Derived.Test.YtimcnmojmbnafaaGreatDoorIntr
import Derived.KernelRfl
namespace Go.Ex
open Go.Proofs

theorem run4_18 : lawG Tryz.prog 64 20000 3 [u8s 6 4, u8s 32 18] 0 handle = true := by kernel_rfl
theorem run4_19 : lawG Tryz.prog 64 20000 3 [u8s 6 4, u8s 32 19] 0 handle = true := by kernel_rfl
theorem run4_20 : lawG Tryz.prog 64 20000 3 [u8s 6 4, u8s 32 20] 0 handle = true := by kernel_rfl
theorem run4_21 : lawG Tryz.prog 64 20000 3 [u8s 6 4, u8s 32 21] 0 handle = true := by kernel_rfl
theorem run4_22 : lawG Tryz.prog 64 20000 3 [u8s 6 4, u8s 32 22] 0 handle = true := by kernel_rfl
theorem run4_23 : lawG Tryz.prog 64 20000 3 [u8s 6 4, u8s 32 23] 0 handle = true := by kernel_rfl
theorem run4_24 : lawG Tryz.prog 64 20000 3 [u8s 6 4, u8s 32 24] 0 handle = true := by kernel_rfl
theorem run4_25 : lawG Tryz.prog 64 20000 3 [u8s 6 4, u8s 32 25] 0 handle = true := by kernel_rfl
theorem run4_26 : lawG Tryz.prog 64 20000 3 [u8s 6 4, u8s 32 26] 0 handle = true := by kernel_rfl
theorem run4_27 : lawG Tryz.prog 64 20000 3 [u8s 6 4, u8s 32 27] 0 handle = true := by kernel_rfl
theorem run4_28 : lawG Tryz.prog 64 20000 3 [u8s 6 4, u8s 32 28] 0 handle = true := by kernel_rfl
theorem run4_29 : lawG Tryz.prog 64 20000 3 [u8s 6 4, u8s 32 29] 0 handle = true := by kernel_rfl
theorem run4_30 : lawG Tryz.prog 64 20000 3 [u8s 6 4, u8s 32 30] 0 handle = true := by kernel_rfl
theorem run4_31 : lawG Tryz.prog 64 20000 3 [u8s 6 4, u8s 32 31] 0 handle = true := by kernel_rfl
theorem run5_0 : lawG Tryz.prog 64 20000 3 [u8s 6 5, u8s 64 0] 0 handle = true := by kernel_rfl
theorem run5_1 : lawG Tryz.prog 64 20000 3 [u8s 6 5, u8s 64 1] 0 handle = true := by kernel_rfl

end Go.Ex
