/- Of the law's runs, some: one run of the executor for each choice of the arguments' residues. -/
import Derived.Test.YtibkcecpbiiplaaGreatDoorIntr
import Derived.KernelRfl
namespace Go.Ex
open Go.Proofs

theorem allC36 : (lawG Tryz.prog 64 60000 3 [u8s 10 8, u8s 9 0, .bool false] 0 handle && lawG Tryz.prog 64 60000 3 [u8s 10 8, u8s 9 0, .bool true] 0 handle) = true := by kernel_rfl
theorem runC8_0_0 : lawG Tryz.prog 64 60000 3 [u8s 10 8, u8s 9 0, .bool false] 0 handle = true := andL (allC36)
theorem runC8_0_1 : lawG Tryz.prog 64 60000 3 [u8s 10 8, u8s 9 0, .bool true] 0 handle = true := andR (allC36)
theorem allC37 : (lawG Tryz.prog 64 60000 3 [u8s 10 8, u8s 9 1, .bool false] 0 handle && lawG Tryz.prog 64 60000 3 [u8s 10 8, u8s 9 1, .bool true] 0 handle) = true := by kernel_rfl
theorem runC8_1_0 : lawG Tryz.prog 64 60000 3 [u8s 10 8, u8s 9 1, .bool false] 0 handle = true := andL (allC37)
theorem runC8_1_1 : lawG Tryz.prog 64 60000 3 [u8s 10 8, u8s 9 1, .bool true] 0 handle = true := andR (allC37)
theorem allC38 : (lawG Tryz.prog 64 60000 3 [u8s 10 8, u8s 9 2, .bool false] 0 handle && lawG Tryz.prog 64 60000 3 [u8s 10 8, u8s 9 2, .bool true] 0 handle) = true := by kernel_rfl
theorem runC8_2_0 : lawG Tryz.prog 64 60000 3 [u8s 10 8, u8s 9 2, .bool false] 0 handle = true := andL (allC38)
theorem runC8_2_1 : lawG Tryz.prog 64 60000 3 [u8s 10 8, u8s 9 2, .bool true] 0 handle = true := andR (allC38)
theorem allC39 : (lawG Tryz.prog 64 60000 3 [u8s 10 8, u8s 9 3, .bool false] 0 handle && lawG Tryz.prog 64 60000 3 [u8s 10 8, u8s 9 3, .bool true] 0 handle) = true := by kernel_rfl
theorem runC8_3_0 : lawG Tryz.prog 64 60000 3 [u8s 10 8, u8s 9 3, .bool false] 0 handle = true := andL (allC39)
theorem runC8_3_1 : lawG Tryz.prog 64 60000 3 [u8s 10 8, u8s 9 3, .bool true] 0 handle = true := andR (allC39)

end Go.Ex
