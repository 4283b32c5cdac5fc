/- Of the law's runs, some: one run of the executor for each choice of the arguments' residues. -/
import Derived.Test.YtibkcecpbiiplaaGreatDoorIntr
import Derived.KernelRfl
namespace Go.Ex
open Go.Proofs

theorem allC4 : (lawG Tryz.prog 64 60000 3 [u8s 10 2, u8s 3 1, .bool false] 0 handle && lawG Tryz.prog 64 60000 3 [u8s 10 2, u8s 3 1, .bool true] 0 handle) = true := by kernel_rfl
theorem runC2_1_0 : lawG Tryz.prog 64 60000 3 [u8s 10 2, u8s 3 1, .bool false] 0 handle = true := andL (allC4)
theorem runC2_1_1 : lawG Tryz.prog 64 60000 3 [u8s 10 2, u8s 3 1, .bool true] 0 handle = true := andR (allC4)
theorem allC5 : (lawG Tryz.prog 64 60000 3 [u8s 10 2, u8s 3 2, .bool false] 0 handle && lawG Tryz.prog 64 60000 3 [u8s 10 2, u8s 3 2, .bool true] 0 handle) = true := by kernel_rfl
theorem runC2_2_0 : lawG Tryz.prog 64 60000 3 [u8s 10 2, u8s 3 2, .bool false] 0 handle = true := andL (allC5)
theorem runC2_2_1 : lawG Tryz.prog 64 60000 3 [u8s 10 2, u8s 3 2, .bool true] 0 handle = true := andR (allC5)
theorem allC6 : (lawG Tryz.prog 64 60000 3 [u8s 10 3, u8s 4 0, .bool false] 0 handle && lawG Tryz.prog 64 60000 3 [u8s 10 3, u8s 4 0, .bool true] 0 handle) = true := by kernel_rfl
theorem runC3_0_0 : lawG Tryz.prog 64 60000 3 [u8s 10 3, u8s 4 0, .bool false] 0 handle = true := andL (allC6)
theorem runC3_0_1 : lawG Tryz.prog 64 60000 3 [u8s 10 3, u8s 4 0, .bool true] 0 handle = true := andR (allC6)
theorem allC7 : (lawG Tryz.prog 64 60000 3 [u8s 10 3, u8s 4 1, .bool false] 0 handle && lawG Tryz.prog 64 60000 3 [u8s 10 3, u8s 4 1, .bool true] 0 handle) = true := by kernel_rfl
theorem runC3_1_0 : lawG Tryz.prog 64 60000 3 [u8s 10 3, u8s 4 1, .bool false] 0 handle = true := andL (allC7)
theorem runC3_1_1 : lawG Tryz.prog 64 60000 3 [u8s 10 3, u8s 4 1, .bool true] 0 handle = true := andR (allC7)

end Go.Ex
