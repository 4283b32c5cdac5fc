/- Of the law's runs, some: one run of the executor for each choice of the arguments' residues. -/
import Derived.Test.YtibkcecpbiiplaaGreatDoorIntr
import Derived.KernelRfl
namespace Go.Ex
open Go.Proofs

theorem allC16 : (lawG Tryz.prog 64 60000 3 [u8s 10 5, u8s 6 1, .bool false] 0 handle && lawG Tryz.prog 64 60000 3 [u8s 10 5, u8s 6 1, .bool true] 0 handle) = true := by kernel_rfl
theorem runC5_1_0 : lawG Tryz.prog 64 60000 3 [u8s 10 5, u8s 6 1, .bool false] 0 handle = true := andL (allC16)
theorem runC5_1_1 : lawG Tryz.prog 64 60000 3 [u8s 10 5, u8s 6 1, .bool true] 0 handle = true := andR (allC16)
theorem allC17 : (lawG Tryz.prog 64 60000 3 [u8s 10 5, u8s 6 2, .bool false] 0 handle && lawG Tryz.prog 64 60000 3 [u8s 10 5, u8s 6 2, .bool true] 0 handle) = true := by kernel_rfl
theorem runC5_2_0 : lawG Tryz.prog 64 60000 3 [u8s 10 5, u8s 6 2, .bool false] 0 handle = true := andL (allC17)
theorem runC5_2_1 : lawG Tryz.prog 64 60000 3 [u8s 10 5, u8s 6 2, .bool true] 0 handle = true := andR (allC17)
theorem allC18 : (lawG Tryz.prog 64 60000 3 [u8s 10 5, u8s 6 3, .bool false] 0 handle && lawG Tryz.prog 64 60000 3 [u8s 10 5, u8s 6 3, .bool true] 0 handle) = true := by kernel_rfl
theorem runC5_3_0 : lawG Tryz.prog 64 60000 3 [u8s 10 5, u8s 6 3, .bool false] 0 handle = true := andL (allC18)
theorem runC5_3_1 : lawG Tryz.prog 64 60000 3 [u8s 10 5, u8s 6 3, .bool true] 0 handle = true := andR (allC18)
theorem allC19 : (lawG Tryz.prog 64 60000 3 [u8s 10 5, u8s 6 4, .bool false] 0 handle && lawG Tryz.prog 64 60000 3 [u8s 10 5, u8s 6 4, .bool true] 0 handle) = true := by kernel_rfl
theorem runC5_4_0 : lawG Tryz.prog 64 60000 3 [u8s 10 5, u8s 6 4, .bool false] 0 handle = true := andL (allC19)
theorem runC5_4_1 : lawG Tryz.prog 64 60000 3 [u8s 10 5, u8s 6 4, .bool true] 0 handle = true := andR (allC19)

end Go.Ex
