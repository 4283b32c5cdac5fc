/- Of the law's runs, some: one run of the executor for each choice of the arguments' residues. -/
import Derived.Test.YtibkcecpbiiplaaGreatDoorIntr
import Derived.KernelRfl
namespace Go.Ex
open Go.Proofs

theorem allC52 : (lawG Tryz.prog 64 60000 3 [u8s 10 9, u8s 10 7, .bool false] 0 handle && lawG Tryz.prog 64 60000 3 [u8s 10 9, u8s 10 7, .bool true] 0 handle) = true := by kernel_rfl
theorem runC9_7_0 : lawG Tryz.prog 64 60000 3 [u8s 10 9, u8s 10 7, .bool false] 0 handle = true := andL (allC52)
theorem runC9_7_1 : lawG Tryz.prog 64 60000 3 [u8s 10 9, u8s 10 7, .bool true] 0 handle = true := andR (allC52)
theorem allC53 : (lawG Tryz.prog 64 60000 3 [u8s 10 9, u8s 10 8, .bool false] 0 handle && lawG Tryz.prog 64 60000 3 [u8s 10 9, u8s 10 8, .bool true] 0 handle) = true := by kernel_rfl
theorem runC9_8_0 : lawG Tryz.prog 64 60000 3 [u8s 10 9, u8s 10 8, .bool false] 0 handle = true := andL (allC53)
theorem runC9_8_1 : lawG Tryz.prog 64 60000 3 [u8s 10 9, u8s 10 8, .bool true] 0 handle = true := andR (allC53)
theorem allC54 : (lawG Tryz.prog 64 60000 3 [u8s 10 9, u8s 10 9, .bool false] 0 handle && lawG Tryz.prog 64 60000 3 [u8s 10 9, u8s 10 9, .bool true] 0 handle) = true := by kernel_rfl
theorem runC9_9_0 : lawG Tryz.prog 64 60000 3 [u8s 10 9, u8s 10 9, .bool false] 0 handle = true := andL (allC54)
theorem runC9_9_1 : lawG Tryz.prog 64 60000 3 [u8s 10 9, u8s 10 9, .bool true] 0 handle = true := andR (allC54)

end Go.Ex
