/- Of the law's runs, some: one run of the executor for each choice of the arguments' residues. -/
import Derived.Test.YtibkcecpbiiplaaGreatDoorIntr
import Derived.KernelRfl
namespace Go.Ex
open Go.Proofs

theorem allC12 : (lawG Tryz.prog 64 60000 3 [u8s 10 4, u8s 5 2, .bool false] 0 handle && lawG Tryz.prog 64 60000 3 [u8s 10 4, u8s 5 2, .bool true] 0 handle) = true := by kernel_rfl
theorem runC4_2_0 : lawG Tryz.prog 64 60000 3 [u8s 10 4, u8s 5 2, .bool false] 0 handle = true := andL (allC12)
theorem runC4_2_1 : lawG Tryz.prog 64 60000 3 [u8s 10 4, u8s 5 2, .bool true] 0 handle = true := andR (allC12)
theorem allC13 : (lawG Tryz.prog 64 60000 3 [u8s 10 4, u8s 5 3, .bool false] 0 handle && lawG Tryz.prog 64 60000 3 [u8s 10 4, u8s 5 3, .bool true] 0 handle) = true := by kernel_rfl
theorem runC4_3_0 : lawG Tryz.prog 64 60000 3 [u8s 10 4, u8s 5 3, .bool false] 0 handle = true := andL (allC13)
theorem runC4_3_1 : lawG Tryz.prog 64 60000 3 [u8s 10 4, u8s 5 3, .bool true] 0 handle = true := andR (allC13)
theorem allC14 : (lawG Tryz.prog 64 60000 3 [u8s 10 4, u8s 5 4, .bool false] 0 handle && lawG Tryz.prog 64 60000 3 [u8s 10 4, u8s 5 4, .bool true] 0 handle) = true := by kernel_rfl
theorem runC4_4_0 : lawG Tryz.prog 64 60000 3 [u8s 10 4, u8s 5 4, .bool false] 0 handle = true := andL (allC14)
theorem runC4_4_1 : lawG Tryz.prog 64 60000 3 [u8s 10 4, u8s 5 4, .bool true] 0 handle = true := andR (allC14)
theorem allC15 : (lawG Tryz.prog 64 60000 3 [u8s 10 5, u8s 6 0, .bool false] 0 handle && lawG Tryz.prog 64 60000 3 [u8s 10 5, u8s 6 0, .bool true] 0 handle) = true := by kernel_rfl
theorem runC5_0_0 : lawG Tryz.prog 64 60000 3 [u8s 10 5, u8s 6 0, .bool false] 0 handle = true := andL (allC15)
theorem runC5_0_1 : lawG Tryz.prog 64 60000 3 [u8s 10 5, u8s 6 0, .bool true] 0 handle = true := andR (allC15)

end Go.Ex
