/- Of the law's runs, some: one run of the executor for each choice of the arguments' residues. -/
import Derived.Test.YtibkcecpbiiplaaGreatDoorIntr
import Derived.KernelRfl
namespace Go.Ex
open Go.Proofs

theorem allC48 : (lawG Tryz.prog 64 60000 3 [u8s 10 9, u8s 10 3, .bool false] 0 handle && lawG Tryz.prog 64 60000 3 [u8s 10 9, u8s 10 3, .bool true] 0 handle) = true := by kernel_rfl
theorem runC9_3_0 : lawG Tryz.prog 64 60000 3 [u8s 10 9, u8s 10 3, .bool false] 0 handle = true := andL (allC48)
theorem runC9_3_1 : lawG Tryz.prog 64 60000 3 [u8s 10 9, u8s 10 3, .bool true] 0 handle = true := andR (allC48)
theorem allC49 : (lawG Tryz.prog 64 60000 3 [u8s 10 9, u8s 10 4, .bool false] 0 handle && lawG Tryz.prog 64 60000 3 [u8s 10 9, u8s 10 4, .bool true] 0 handle) = true := by kernel_rfl
theorem runC9_4_0 : lawG Tryz.prog 64 60000 3 [u8s 10 9, u8s 10 4, .bool false] 0 handle = true := andL (allC49)
theorem runC9_4_1 : lawG Tryz.prog 64 60000 3 [u8s 10 9, u8s 10 4, .bool true] 0 handle = true := andR (allC49)
theorem allC50 : (lawG Tryz.prog 64 60000 3 [u8s 10 9, u8s 10 5, .bool false] 0 handle && lawG Tryz.prog 64 60000 3 [u8s 10 9, u8s 10 5, .bool true] 0 handle) = true := by kernel_rfl
theorem runC9_5_0 : lawG Tryz.prog 64 60000 3 [u8s 10 9, u8s 10 5, .bool false] 0 handle = true := andL (allC50)
theorem runC9_5_1 : lawG Tryz.prog 64 60000 3 [u8s 10 9, u8s 10 5, .bool true] 0 handle = true := andR (allC50)
theorem allC51 : (lawG Tryz.prog 64 60000 3 [u8s 10 9, u8s 10 6, .bool false] 0 handle && lawG Tryz.prog 64 60000 3 [u8s 10 9, u8s 10 6, .bool true] 0 handle) = true := by kernel_rfl
theorem runC9_6_0 : lawG Tryz.prog 64 60000 3 [u8s 10 9, u8s 10 6, .bool false] 0 handle = true := andL (allC51)
theorem runC9_6_1 : lawG Tryz.prog 64 60000 3 [u8s 10 9, u8s 10 6, .bool true] 0 handle = true := andR (allC51)

end Go.Ex
