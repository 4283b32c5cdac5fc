/- Of the law's runs, some: one run of the executor for each choice of the arguments' residues. -/
import Derived.Test.YtibkcecpbiiplaaGreatDoorIntr
import Derived.KernelRfl
namespace Go.Ex
open Go.Proofs

theorem allC0 : (lawG Tryz.prog 64 60000 3 [u8s 10 0, u8s 1 0, .bool false] 0 handle && lawG Tryz.prog 64 60000 3 [u8s 10 0, u8s 1 0, .bool true] 0 handle) = true := by kernel_rfl
theorem runC0_0_0 : lawG Tryz.prog 64 60000 3 [u8s 10 0, u8s 1 0, .bool false] 0 handle = true := andL (allC0)
theorem runC0_0_1 : lawG Tryz.prog 64 60000 3 [u8s 10 0, u8s 1 0, .bool true] 0 handle = true := andR (allC0)
theorem allC1 : (lawG Tryz.prog 64 60000 3 [u8s 10 1, u8s 2 0, .bool false] 0 handle && lawG Tryz.prog 64 60000 3 [u8s 10 1, u8s 2 0, .bool true] 0 handle) = true := by kernel_rfl
theorem runC1_0_0 : lawG Tryz.prog 64 60000 3 [u8s 10 1, u8s 2 0, .bool false] 0 handle = true := andL (allC1)
theorem runC1_0_1 : lawG Tryz.prog 64 60000 3 [u8s 10 1, u8s 2 0, .bool true] 0 handle = true := andR (allC1)
theorem allC2 : (lawG Tryz.prog 64 60000 3 [u8s 10 1, u8s 2 1, .bool false] 0 handle && lawG Tryz.prog 64 60000 3 [u8s 10 1, u8s 2 1, .bool true] 0 handle) = true := by kernel_rfl
theorem runC1_1_0 : lawG Tryz.prog 64 60000 3 [u8s 10 1, u8s 2 1, .bool false] 0 handle = true := andL (allC2)
theorem runC1_1_1 : lawG Tryz.prog 64 60000 3 [u8s 10 1, u8s 2 1, .bool true] 0 handle = true := andR (allC2)
theorem allC3 : (lawG Tryz.prog 64 60000 3 [u8s 10 2, u8s 3 0, .bool false] 0 handle && lawG Tryz.prog 64 60000 3 [u8s 10 2, u8s 3 0, .bool true] 0 handle) = true := by kernel_rfl
theorem runC2_0_0 : lawG Tryz.prog 64 60000 3 [u8s 10 2, u8s 3 0, .bool false] 0 handle = true := andL (allC3)
theorem runC2_0_1 : lawG Tryz.prog 64 60000 3 [u8s 10 2, u8s 3 0, .bool true] 0 handle = true := andR (allC3)

end Go.Ex
