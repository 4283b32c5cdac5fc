/- Of the law's runs, some: one run of the executor for each choice of the arguments' residues. -/
import Derived.Test.YtibkcecpbiiplaaGreatDoorIntr
import Derived.KernelRfl
namespace Go.Ex
open Go.Proofs

theorem allC44 : (lawG Tryz.prog 64 60000 3 [u8s 10 8, u8s 9 8, .bool false] 0 handle && lawG Tryz.prog 64 60000 3 [u8s 10 8, u8s 9 8, .bool true] 0 handle) = true := by kernel_rfl
theorem runC8_8_0 : lawG Tryz.prog 64 60000 3 [u8s 10 8, u8s 9 8, .bool false] 0 handle = true := andL (allC44)
theorem runC8_8_1 : lawG Tryz.prog 64 60000 3 [u8s 10 8, u8s 9 8, .bool true] 0 handle = true := andR (allC44)
theorem allC45 : (lawG Tryz.prog 64 60000 3 [u8s 10 9, u8s 10 0, .bool false] 0 handle && lawG Tryz.prog 64 60000 3 [u8s 10 9, u8s 10 0, .bool true] 0 handle) = true := by kernel_rfl
theorem runC9_0_0 : lawG Tryz.prog 64 60000 3 [u8s 10 9, u8s 10 0, .bool false] 0 handle = true := andL (allC45)
theorem runC9_0_1 : lawG Tryz.prog 64 60000 3 [u8s 10 9, u8s 10 0, .bool true] 0 handle = true := andR (allC45)
theorem allC46 : (lawG Tryz.prog 64 60000 3 [u8s 10 9, u8s 10 1, .bool false] 0 handle && lawG Tryz.prog 64 60000 3 [u8s 10 9, u8s 10 1, .bool true] 0 handle) = true := by kernel_rfl
theorem runC9_1_0 : lawG Tryz.prog 64 60000 3 [u8s 10 9, u8s 10 1, .bool false] 0 handle = true := andL (allC46)
theorem runC9_1_1 : lawG Tryz.prog 64 60000 3 [u8s 10 9, u8s 10 1, .bool true] 0 handle = true := andR (allC46)
theorem allC47 : (lawG Tryz.prog 64 60000 3 [u8s 10 9, u8s 10 2, .bool false] 0 handle && lawG Tryz.prog 64 60000 3 [u8s 10 9, u8s 10 2, .bool true] 0 handle) = true := by kernel_rfl
theorem runC9_2_0 : lawG Tryz.prog 64 60000 3 [u8s 10 9, u8s 10 2, .bool false] 0 handle = true := andL (allC47)
theorem runC9_2_1 : lawG Tryz.prog 64 60000 3 [u8s 10 9, u8s 10 2, .bool true] 0 handle = true := andR (allC47)

end Go.Ex
