/- Of the law's runs, some: one run of the executor for each choice of the arguments' residues. -/
import Derived.Test.YtbhkafbpkiagbaaGreatDoorIntr
import Derived.KernelRfl
namespace Go.Ex
open Go.Proofs

theorem allT28 : (lawG Tryz.prog 64 30000 3 [u8s 14 7, u8s 8 0] 0 handle && lawG Tryz.prog 64 30000 3 [u8s 14 7, u8s 8 1] 0 handle) = true := by kernel_rfl
theorem runT7_0 : lawG Tryz.prog 64 30000 3 [u8s 14 7, u8s 8 0] 0 handle = true := andL (allT28)
theorem runT7_1 : lawG Tryz.prog 64 30000 3 [u8s 14 7, u8s 8 1] 0 handle = true := andR (allT28)
theorem allT29 : (lawG Tryz.prog 64 30000 3 [u8s 14 7, u8s 8 2] 0 handle && lawG Tryz.prog 64 30000 3 [u8s 14 7, u8s 8 3] 0 handle) = true := by kernel_rfl
theorem runT7_2 : lawG Tryz.prog 64 30000 3 [u8s 14 7, u8s 8 2] 0 handle = true := andL (allT29)
theorem runT7_3 : lawG Tryz.prog 64 30000 3 [u8s 14 7, u8s 8 3] 0 handle = true := andR (allT29)
theorem allT30 : (lawG Tryz.prog 64 30000 3 [u8s 14 7, u8s 8 4] 0 handle && lawG Tryz.prog 64 30000 3 [u8s 14 7, u8s 8 5] 0 handle) = true := by kernel_rfl
theorem runT7_4 : lawG Tryz.prog 64 30000 3 [u8s 14 7, u8s 8 4] 0 handle = true := andL (allT30)
theorem runT7_5 : lawG Tryz.prog 64 30000 3 [u8s 14 7, u8s 8 5] 0 handle = true := andR (allT30)
theorem allT31 : (lawG Tryz.prog 64 30000 3 [u8s 14 7, u8s 8 6] 0 handle && lawG Tryz.prog 64 30000 3 [u8s 14 7, u8s 8 7] 0 handle) = true := by kernel_rfl
theorem runT7_6 : lawG Tryz.prog 64 30000 3 [u8s 14 7, u8s 8 6] 0 handle = true := andL (allT31)
theorem runT7_7 : lawG Tryz.prog 64 30000 3 [u8s 14 7, u8s 8 7] 0 handle = true := andR (allT31)

end Go.Ex
