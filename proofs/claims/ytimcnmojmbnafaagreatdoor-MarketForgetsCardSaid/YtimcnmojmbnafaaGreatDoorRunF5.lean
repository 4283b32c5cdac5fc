/- Of the law's runs, some: one run of the executor for each choice of the arguments' residues. -/
import Derived.Test.YtimcnmojmbnafaaGreatDoorIntr
import Derived.KernelRfl
namespace Go.Ex
open Go.Proofs

theorem run5_18 : lawG Tryz.prog 64 20000 3 [u8s 6 5, u8s 64 18] 0 handle = true := by kernel_rfl
theorem run5_19 : lawG Tryz.prog 64 20000 3 [u8s 6 5, u8s 64 19] 0 handle = true := by kernel_rfl
theorem run5_20 : lawG Tryz.prog 64 20000 3 [u8s 6 5, u8s 64 20] 0 handle = true := by kernel_rfl
theorem run5_21 : lawG Tryz.prog 64 20000 3 [u8s 6 5, u8s 64 21] 0 handle = true := by kernel_rfl
theorem run5_22 : lawG Tryz.prog 64 20000 3 [u8s 6 5, u8s 64 22] 0 handle = true := by kernel_rfl
theorem run5_23 : lawG Tryz.prog 64 20000 3 [u8s 6 5, u8s 64 23] 0 handle = true := by kernel_rfl
theorem run5_24 : lawG Tryz.prog 64 20000 3 [u8s 6 5, u8s 64 24] 0 handle = true := by kernel_rfl
theorem run5_25 : lawG Tryz.prog 64 20000 3 [u8s 6 5, u8s 64 25] 0 handle = true := by kernel_rfl
theorem run5_26 : lawG Tryz.prog 64 20000 3 [u8s 6 5, u8s 64 26] 0 handle = true := by kernel_rfl
theorem run5_27 : lawG Tryz.prog 64 20000 3 [u8s 6 5, u8s 64 27] 0 handle = true := by kernel_rfl
theorem run5_28 : lawG Tryz.prog 64 20000 3 [u8s 6 5, u8s 64 28] 0 handle = true := by kernel_rfl
theorem run5_29 : lawG Tryz.prog 64 20000 3 [u8s 6 5, u8s 64 29] 0 handle = true := by kernel_rfl
theorem run5_30 : lawG Tryz.prog 64 20000 3 [u8s 6 5, u8s 64 30] 0 handle = true := by kernel_rfl
theorem run5_31 : lawG Tryz.prog 64 20000 3 [u8s 6 5, u8s 64 31] 0 handle = true := by kernel_rfl
theorem run5_32 : lawG Tryz.prog 64 20000 3 [u8s 6 5, u8s 64 32] 0 handle = true := by kernel_rfl
theorem run5_33 : lawG Tryz.prog 64 20000 3 [u8s 6 5, u8s 64 33] 0 handle = true := by kernel_rfl

end Go.Ex
