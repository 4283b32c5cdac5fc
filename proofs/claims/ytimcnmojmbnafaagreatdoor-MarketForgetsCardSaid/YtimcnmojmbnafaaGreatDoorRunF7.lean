/- Of the law's runs, some: one run of the executor for each choice of the arguments' residues. -/
import Derived.Test.YtimcnmojmbnafaaGreatDoorIntr
import Derived.KernelRfl
namespace Go.Ex
open Go.Proofs

theorem run5_50 : lawG Tryz.prog 64 20000 3 [u8s 6 5, u8s 64 50] 0 handle = true := by kernel_rfl
theorem run5_51 : lawG Tryz.prog 64 20000 3 [u8s 6 5, u8s 64 51] 0 handle = true := by kernel_rfl
theorem run5_52 : lawG Tryz.prog 64 20000 3 [u8s 6 5, u8s 64 52] 0 handle = true := by kernel_rfl
theorem run5_53 : lawG Tryz.prog 64 20000 3 [u8s 6 5, u8s 64 53] 0 handle = true := by kernel_rfl
theorem run5_54 : lawG Tryz.prog 64 20000 3 [u8s 6 5, u8s 64 54] 0 handle = true := by kernel_rfl
theorem run5_55 : lawG Tryz.prog 64 20000 3 [u8s 6 5, u8s 64 55] 0 handle = true := by kernel_rfl
theorem run5_56 : lawG Tryz.prog 64 20000 3 [u8s 6 5, u8s 64 56] 0 handle = true := by kernel_rfl
theorem run5_57 : lawG Tryz.prog 64 20000 3 [u8s 6 5, u8s 64 57] 0 handle = true := by kernel_rfl
theorem run5_58 : lawG Tryz.prog 64 20000 3 [u8s 6 5, u8s 64 58] 0 handle = true := by kernel_rfl
theorem run5_59 : lawG Tryz.prog 64 20000 3 [u8s 6 5, u8s 64 59] 0 handle = true := by kernel_rfl
theorem run5_60 : lawG Tryz.prog 64 20000 3 [u8s 6 5, u8s 64 60] 0 handle = true := by kernel_rfl
theorem run5_61 : lawG Tryz.prog 64 20000 3 [u8s 6 5, u8s 64 61] 0 handle = true := by kernel_rfl
theorem run5_62 : lawG Tryz.prog 64 20000 3 [u8s 6 5, u8s 64 62] 0 handle = true := by kernel_rfl
theorem run5_63 : lawG Tryz.prog 64 20000 3 [u8s 6 5, u8s 64 63] 0 handle = true := by kernel_rfl

end Go.Ex
