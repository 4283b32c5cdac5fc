/- Of the law's runs, some: one run of the executor for each choice of the arguments' residues. -/
import Derived.Test.YtibkcecpbiiplaaGreatDoorIntr
import Derived.KernelRfl
namespace Go.Ex
open Go.Proofs

theorem allC32 : (lawG Tryz.prog 64 60000 3 [u8s 10 7, u8s 8 4, .bool false] 0 handle && lawG Tryz.prog 64 60000 3 [u8s 10 7, u8s 8 4, .bool true] 0 handle) = true := by kernel_rfl
theorem runC7_4_0 : lawG Tryz.prog 64 60000 3 [u8s 10 7, u8s 8 4, .bool false] 0 handle = true := andL (allC32)
theorem runC7_4_1 : lawG Tryz.prog 64 60000 3 [u8s 10 7, u8s 8 4, .bool true] 0 handle = true := andR (allC32)
theorem allC33 : (lawG Tryz.prog 64 60000 3 [u8s 10 7, u8s 8 5, .bool false] 0 handle && lawG Tryz.prog 64 60000 3 [u8s 10 7, u8s 8 5, .bool true] 0 handle) = true := by kernel_rfl
theorem runC7_5_0 : lawG Tryz.prog 64 60000 3 [u8s 10 7, u8s 8 5, .bool false] 0 handle = true := andL (allC33)
theorem runC7_5_1 : lawG Tryz.prog 64 60000 3 [u8s 10 7, u8s 8 5, .bool true] 0 handle = true := andR (allC33)
theorem allC34 : (lawG Tryz.prog 64 60000 3 [u8s 10 7, u8s 8 6, .bool false] 0 handle && lawG Tryz.prog 64 60000 3 [u8s 10 7, u8s 8 6, .bool true] 0 handle) = true := by kernel_rfl
theorem runC7_6_0 : lawG Tryz.prog 64 60000 3 [u8s 10 7, u8s 8 6, .bool false] 0 handle = true := andL (allC34)
theorem runC7_6_1 : lawG Tryz.prog 64 60000 3 [u8s 10 7, u8s 8 6, .bool true] 0 handle = true := andR (allC34)
theorem allC35 : (lawG Tryz.prog 64 60000 3 [u8s 10 7, u8s 8 7, .bool false] 0 handle && lawG Tryz.prog 64 60000 3 [u8s 10 7, u8s 8 7, .bool true] 0 handle) = true := by kernel_rfl
theorem runC7_7_0 : lawG Tryz.prog 64 60000 3 [u8s 10 7, u8s 8 7, .bool false] 0 handle = true := andL (allC35)
theorem runC7_7_1 : lawG Tryz.prog 64 60000 3 [u8s 10 7, u8s 8 7, .bool true] 0 handle = true := andR (allC35)

end Go.Ex
