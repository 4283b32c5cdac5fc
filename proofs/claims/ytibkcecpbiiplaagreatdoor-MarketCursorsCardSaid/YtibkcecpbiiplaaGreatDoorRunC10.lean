/- Of the law's runs, some: one run of the executor for each choice of the arguments' residues. -/
import Derived.Test.YtibkcecpbiiplaaGreatDoorIntr
import Derived.KernelRfl
namespace Go.Ex
open Go.Proofs

theorem allC40 : (lawG Tryz.prog 64 60000 3 [u8s 10 8, u8s 9 4, .bool false] 0 handle && lawG Tryz.prog 64 60000 3 [u8s 10 8, u8s 9 4, .bool true] 0 handle) = true := by kernel_rfl
theorem runC8_4_0 : lawG Tryz.prog 64 60000 3 [u8s 10 8, u8s 9 4, .bool false] 0 handle = true := andL (allC40)
theorem runC8_4_1 : lawG Tryz.prog 64 60000 3 [u8s 10 8, u8s 9 4, .bool true] 0 handle = true := andR (allC40)
theorem allC41 : (lawG Tryz.prog 64 60000 3 [u8s 10 8, u8s 9 5, .bool false] 0 handle && lawG Tryz.prog 64 60000 3 [u8s 10 8, u8s 9 5, .bool true] 0 handle) = true := by kernel_rfl
theorem runC8_5_0 : lawG Tryz.prog 64 60000 3 [u8s 10 8, u8s 9 5, .bool false] 0 handle = true := andL (allC41)
theorem runC8_5_1 : lawG Tryz.prog 64 60000 3 [u8s 10 8, u8s 9 5, .bool true] 0 handle = true := andR (allC41)
theorem allC42 : (lawG Tryz.prog 64 60000 3 [u8s 10 8, u8s 9 6, .bool false] 0 handle && lawG Tryz.prog 64 60000 3 [u8s 10 8, u8s 9 6, .bool true] 0 handle) = true := by kernel_rfl
theorem runC8_6_0 : lawG Tryz.prog 64 60000 3 [u8s 10 8, u8s 9 6, .bool false] 0 handle = true := andL (allC42)
theorem runC8_6_1 : lawG Tryz.prog 64 60000 3 [u8s 10 8, u8s 9 6, .bool true] 0 handle = true := andR (allC42)
theorem allC43 : (lawG Tryz.prog 64 60000 3 [u8s 10 8, u8s 9 7, .bool false] 0 handle && lawG Tryz.prog 64 60000 3 [u8s 10 8, u8s 9 7, .bool true] 0 handle) = true := by kernel_rfl
theorem runC8_7_0 : lawG Tryz.prog 64 60000 3 [u8s 10 8, u8s 9 7, .bool false] 0 handle = true := andL (allC43)
theorem runC8_7_1 : lawG Tryz.prog 64 60000 3 [u8s 10 8, u8s 9 7, .bool true] 0 handle = true := andR (allC43)

end Go.Ex
