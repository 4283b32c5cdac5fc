/- Of the law's runs, some: one run of the executor for each choice of the arguments' residues. -/
import Derived.Test.YtibkcecpbiiplaaGreatDoorIntr
import Derived.KernelRfl
namespace Go.Ex
open Go.Proofs

theorem allC28 : (lawG Tryz.prog 64 60000 3 [u8s 10 7, u8s 8 0, .bool false] 0 handle && lawG Tryz.prog 64 60000 3 [u8s 10 7, u8s 8 0, .bool true] 0 handle) = true := by kernel_rfl
theorem runC7_0_0 : lawG Tryz.prog 64 60000 3 [u8s 10 7, u8s 8 0, .bool false] 0 handle = true := andL (allC28)
theorem runC7_0_1 : lawG Tryz.prog 64 60000 3 [u8s 10 7, u8s 8 0, .bool true] 0 handle = true := andR (allC28)
theorem allC29 : (lawG Tryz.prog 64 60000 3 [u8s 10 7, u8s 8 1, .bool false] 0 handle && lawG Tryz.prog 64 60000 3 [u8s 10 7, u8s 8 1, .bool true] 0 handle) = true := by kernel_rfl
theorem runC7_1_0 : lawG Tryz.prog 64 60000 3 [u8s 10 7, u8s 8 1, .bool false] 0 handle = true := andL (allC29)
theorem runC7_1_1 : lawG Tryz.prog 64 60000 3 [u8s 10 7, u8s 8 1, .bool true] 0 handle = true := andR (allC29)
theorem allC30 : (lawG Tryz.prog 64 60000 3 [u8s 10 7, u8s 8 2, .bool false] 0 handle && lawG Tryz.prog 64 60000 3 [u8s 10 7, u8s 8 2, .bool true] 0 handle) = true := by kernel_rfl
theorem runC7_2_0 : lawG Tryz.prog 64 60000 3 [u8s 10 7, u8s 8 2, .bool false] 0 handle = true := andL (allC30)
theorem runC7_2_1 : lawG Tryz.prog 64 60000 3 [u8s 10 7, u8s 8 2, .bool true] 0 handle = true := andR (allC30)
theorem allC31 : (lawG Tryz.prog 64 60000 3 [u8s 10 7, u8s 8 3, .bool false] 0 handle && lawG Tryz.prog 64 60000 3 [u8s 10 7, u8s 8 3, .bool true] 0 handle) = true := by kernel_rfl
theorem runC7_3_0 : lawG Tryz.prog 64 60000 3 [u8s 10 7, u8s 8 3, .bool false] 0 handle = true := andL (allC31)
theorem runC7_3_1 : lawG Tryz.prog 64 60000 3 [u8s 10 7, u8s 8 3, .bool true] 0 handle = true := andR (allC31)

end Go.Ex
