/- Of the law's runs, some: one run of the executor for each choice of the arguments' residues. -/
import Derived.Test.YtbhkafbpkiagbaaGreatDoorIntr
import Derived.KernelRfl
namespace Go.Ex
open Go.Proofs

theorem allT4 : (lawG Tryz.prog 64 30000 3 [u8s 14 1, u8s 8 0] 0 handle && lawG Tryz.prog 64 30000 3 [u8s 14 1, u8s 8 1] 0 handle) = true := by kernel_rfl
theorem runT1_0 : lawG Tryz.prog 64 30000 3 [u8s 14 1, u8s 8 0] 0 handle = true := andL (allT4)
theorem runT1_1 : lawG Tryz.prog 64 30000 3 [u8s 14 1, u8s 8 1] 0 handle = true := andR (allT4)
theorem allT5 : (lawG Tryz.prog 64 30000 3 [u8s 14 1, u8s 8 2] 0 handle && lawG Tryz.prog 64 30000 3 [u8s 14 1, u8s 8 3] 0 handle) = true := by kernel_rfl
theorem runT1_2 : lawG Tryz.prog 64 30000 3 [u8s 14 1, u8s 8 2] 0 handle = true := andL (allT5)
theorem runT1_3 : lawG Tryz.prog 64 30000 3 [u8s 14 1, u8s 8 3] 0 handle = true := andR (allT5)
theorem allT6 : (lawG Tryz.prog 64 30000 3 [u8s 14 1, u8s 8 4] 0 handle && lawG Tryz.prog 64 30000 3 [u8s 14 1, u8s 8 5] 0 handle) = true := by kernel_rfl
theorem runT1_4 : lawG Tryz.prog 64 30000 3 [u8s 14 1, u8s 8 4] 0 handle = true := andL (allT6)
theorem runT1_5 : lawG Tryz.prog 64 30000 3 [u8s 14 1, u8s 8 5] 0 handle = true := andR (allT6)
theorem allT7 : (lawG Tryz.prog 64 30000 3 [u8s 14 1, u8s 8 6] 0 handle && lawG Tryz.prog 64 30000 3 [u8s 14 1, u8s 8 7] 0 handle) = true := by kernel_rfl
theorem runT1_6 : lawG Tryz.prog 64 30000 3 [u8s 14 1, u8s 8 6] 0 handle = true := andL (allT7)
theorem runT1_7 : lawG Tryz.prog 64 30000 3 [u8s 14 1, u8s 8 7] 0 handle = true := andR (allT7)

end Go.Ex
