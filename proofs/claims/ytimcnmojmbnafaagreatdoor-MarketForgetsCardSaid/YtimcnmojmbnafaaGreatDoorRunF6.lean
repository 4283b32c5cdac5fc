/- Of the law's runs, some: one run of the executor for each choice of the arguments' residues. -/
import Derived.Test.YtimcnmojmbnafaaGreatDoorIntr
import Derived.KernelRfl
namespace Go.Ex
open Go.Proofs

theorem run5_34 : lawG Tryz.prog 64 20000 3 [u8s 6 5, u8s 64 34] 0 handle = true := by kernel_rfl
theorem run5_35 : lawG Tryz.prog 64 20000 3 [u8s 6 5, u8s 64 35] 0 handle = true := by kernel_rfl
theorem run5_36 : lawG Tryz.prog 64 20000 3 [u8s 6 5, u8s 64 36] 0 handle = true := by kernel_rfl
theorem run5_37 : lawG Tryz.prog 64 20000 3 [u8s 6 5, u8s 64 37] 0 handle = true := by kernel_rfl
theorem run5_38 : lawG Tryz.prog 64 20000 3 [u8s 6 5, u8s 64 38] 0 handle = true := by kernel_rfl
theorem run5_39 : lawG Tryz.prog 64 20000 3 [u8s 6 5, u8s 64 39] 0 handle = true := by kernel_rfl
theorem run5_40 : lawG Tryz.prog 64 20000 3 [u8s 6 5, u8s 64 40] 0 handle = true := by kernel_rfl
theorem run5_41 : lawG Tryz.prog 64 20000 3 [u8s 6 5, u8s 64 41] 0 handle = true := by kernel_rfl
theorem run5_42 : lawG Tryz.prog 64 20000 3 [u8s 6 5, u8s 64 42] 0 handle = true := by kernel_rfl
theorem run5_43 : lawG Tryz.prog 64 20000 3 [u8s 6 5, u8s 64 43] 0 handle = true := by kernel_rfl
theorem run5_44 : lawG Tryz.prog 64 20000 3 [u8s 6 5, u8s 64 44] 0 handle = true := by kernel_rfl
theorem run5_45 : lawG Tryz.prog 64 20000 3 [u8s 6 5, u8s 64 45] 0 handle = true := by kernel_rfl
theorem run5_46 : lawG Tryz.prog 64 20000 3 [u8s 6 5, u8s 64 46] 0 handle = true := by kernel_rfl
theorem run5_47 : lawG Tryz.prog 64 20000 3 [u8s 6 5, u8s 64 47] 0 handle = true := by kernel_rfl
theorem run5_48 : lawG Tryz.prog 64 20000 3 [u8s 6 5, u8s 64 48] 0 handle = true := by kernel_rfl
theorem run5_49 : lawG Tryz.prog 64 20000 3 [u8s 6 5, u8s 64 49] 0 handle = true := by kernel_rfl

end Go.Ex
