/- Of the law's runs, some: one run of the executor for each choice of the arguments' residues. -/
import Derived.Test.YtibkcecpbiiplaaGreatDoorIntr
import Derived.KernelRfl
namespace Go.Ex
open Go.Proofs

theorem allC20 : (lawG Tryz.prog 64 60000 3 [u8s 10 5, u8s 6 5, .bool false] 0 handle && lawG Tryz.prog 64 60000 3 [u8s 10 5, u8s 6 5, .bool true] 0 handle) = true := by kernel_rfl
theorem runC5_5_0 : lawG Tryz.prog 64 60000 3 [u8s 10 5, u8s 6 5, .bool false] 0 handle = true := andL (allC20)
theorem runC5_5_1 : lawG Tryz.prog 64 60000 3 [u8s 10 5, u8s 6 5, .bool true] 0 handle = true := andR (allC20)
theorem allC21 : (lawG Tryz.prog 64 60000 3 [u8s 10 6, u8s 7 0, .bool false] 0 handle && lawG Tryz.prog 64 60000 3 [u8s 10 6, u8s 7 0, .bool true] 0 handle) = true := by kernel_rfl
theorem runC6_0_0 : lawG Tryz.prog 64 60000 3 [u8s 10 6, u8s 7 0, .bool false] 0 handle = true := andL (allC21)
theorem runC6_0_1 : lawG Tryz.prog 64 60000 3 [u8s 10 6, u8s 7 0, .bool true] 0 handle = true := andR (allC21)
theorem allC22 : (lawG Tryz.prog 64 60000 3 [u8s 10 6, u8s 7 1, .bool false] 0 handle && lawG Tryz.prog 64 60000 3 [u8s 10 6, u8s 7 1, .bool true] 0 handle) = true := by kernel_rfl
theorem runC6_1_0 : lawG Tryz.prog 64 60000 3 [u8s 10 6, u8s 7 1, .bool false] 0 handle = true := andL (allC22)
theorem runC6_1_1 : lawG Tryz.prog 64 60000 3 [u8s 10 6, u8s 7 1, .bool true] 0 handle = true := andR (allC22)
theorem allC23 : (lawG Tryz.prog 64 60000 3 [u8s 10 6, u8s 7 2, .bool false] 0 handle && lawG Tryz.prog 64 60000 3 [u8s 10 6, u8s 7 2, .bool true] 0 handle) = true := by kernel_rfl
theorem runC6_2_0 : lawG Tryz.prog 64 60000 3 [u8s 10 6, u8s 7 2, .bool false] 0 handle = true := andL (allC23)
theorem runC6_2_1 : lawG Tryz.prog 64 60000 3 [u8s 10 6, u8s 7 2, .bool true] 0 handle = true := andR (allC23)

end Go.Ex
