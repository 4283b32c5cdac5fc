/- Of the law's runs, some: one run of the executor for each choice of the arguments' residues. -/
import Derived.Test.YtibkcecpbiiplaaGreatDoorIntr
import Derived.KernelRfl
namespace Go.Ex
open Go.Proofs

theorem allC8 : (lawG Tryz.prog 64 60000 3 [u8s 10 3, u8s 4 2, .bool false] 0 handle && lawG Tryz.prog 64 60000 3 [u8s 10 3, u8s 4 2, .bool true] 0 handle) = true := by kernel_rfl
theorem runC3_2_0 : lawG Tryz.prog 64 60000 3 [u8s 10 3, u8s 4 2, .bool false] 0 handle = true := andL (allC8)
theorem runC3_2_1 : lawG Tryz.prog 64 60000 3 [u8s 10 3, u8s 4 2, .bool true] 0 handle = true := andR (allC8)
theorem allC9 : (lawG Tryz.prog 64 60000 3 [u8s 10 3, u8s 4 3, .bool false] 0 handle && lawG Tryz.prog 64 60000 3 [u8s 10 3, u8s 4 3, .bool true] 0 handle) = true := by kernel_rfl
theorem runC3_3_0 : lawG Tryz.prog 64 60000 3 [u8s 10 3, u8s 4 3, .bool false] 0 handle = true := andL (allC9)
theorem runC3_3_1 : lawG Tryz.prog 64 60000 3 [u8s 10 3, u8s 4 3, .bool true] 0 handle = true := andR (allC9)
theorem allC10 : (lawG Tryz.prog 64 60000 3 [u8s 10 4, u8s 5 0, .bool false] 0 handle && lawG Tryz.prog 64 60000 3 [u8s 10 4, u8s 5 0, .bool true] 0 handle) = true := by kernel_rfl
theorem runC4_0_0 : lawG Tryz.prog 64 60000 3 [u8s 10 4, u8s 5 0, .bool false] 0 handle = true := andL (allC10)
theorem runC4_0_1 : lawG Tryz.prog 64 60000 3 [u8s 10 4, u8s 5 0, .bool true] 0 handle = true := andR (allC10)
theorem allC11 : (lawG Tryz.prog 64 60000 3 [u8s 10 4, u8s 5 1, .bool false] 0 handle && lawG Tryz.prog 64 60000 3 [u8s 10 4, u8s 5 1, .bool true] 0 handle) = true := by kernel_rfl
theorem runC4_1_0 : lawG Tryz.prog 64 60000 3 [u8s 10 4, u8s 5 1, .bool false] 0 handle = true := andL (allC11)
theorem runC4_1_1 : lawG Tryz.prog 64 60000 3 [u8s 10 4, u8s 5 1, .bool true] 0 handle = true := andR (allC11)

end Go.Ex
