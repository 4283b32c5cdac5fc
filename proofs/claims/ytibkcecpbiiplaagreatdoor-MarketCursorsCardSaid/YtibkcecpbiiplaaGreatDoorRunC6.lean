/- Of the law's runs, some: one run of the executor for each choice of the arguments' residues. -/
import Derived.Test.YtibkcecpbiiplaaGreatDoorIntr
import Derived.KernelRfl
namespace Go.Ex
open Go.Proofs

theorem allC24 : (lawG Tryz.prog 64 60000 3 [u8s 10 6, u8s 7 3, .bool false] 0 handle && lawG Tryz.prog 64 60000 3 [u8s 10 6, u8s 7 3, .bool true] 0 handle) = true := by kernel_rfl
theorem runC6_3_0 : lawG Tryz.prog 64 60000 3 [u8s 10 6, u8s 7 3, .bool false] 0 handle = true := andL (allC24)
theorem runC6_3_1 : lawG Tryz.prog 64 60000 3 [u8s 10 6, u8s 7 3, .bool true] 0 handle = true := andR (allC24)
theorem allC25 : (lawG Tryz.prog 64 60000 3 [u8s 10 6, u8s 7 4, .bool false] 0 handle && lawG Tryz.prog 64 60000 3 [u8s 10 6, u8s 7 4, .bool true] 0 handle) = true := by kernel_rfl
theorem runC6_4_0 : lawG Tryz.prog 64 60000 3 [u8s 10 6, u8s 7 4, .bool false] 0 handle = true := andL (allC25)
theorem runC6_4_1 : lawG Tryz.prog 64 60000 3 [u8s 10 6, u8s 7 4, .bool true] 0 handle = true := andR (allC25)
theorem allC26 : (lawG Tryz.prog 64 60000 3 [u8s 10 6, u8s 7 5, .bool false] 0 handle && lawG Tryz.prog 64 60000 3 [u8s 10 6, u8s 7 5, .bool true] 0 handle) = true := by kernel_rfl
theorem runC6_5_0 : lawG Tryz.prog 64 60000 3 [u8s 10 6, u8s 7 5, .bool false] 0 handle = true := andL (allC26)
theorem runC6_5_1 : lawG Tryz.prog 64 60000 3 [u8s 10 6, u8s 7 5, .bool true] 0 handle = true := andR (allC26)
theorem allC27 : (lawG Tryz.prog 64 60000 3 [u8s 10 6, u8s 7 6, .bool false] 0 handle && lawG Tryz.prog 64 60000 3 [u8s 10 6, u8s 7 6, .bool true] 0 handle) = true := by kernel_rfl
theorem runC6_6_0 : lawG Tryz.prog 64 60000 3 [u8s 10 6, u8s 7 6, .bool false] 0 handle = true := andL (allC27)
theorem runC6_6_1 : lawG Tryz.prog 64 60000 3 [u8s 10 6, u8s 7 6, .bool true] 0 handle = true := andR (allC27)

end Go.Ex
