/- Of the law's runs, some: one run of the executor for each choice of the arguments' residues. -/
import Derived.Test.YtbhkafbpkiagbaaGreatDoorIntr
import Derived.KernelRfl
namespace Go.Ex
open Go.Proofs

theorem allT12 : (lawG Tryz.prog 64 30000 3 [u8s 14 3, u8s 8 0] 0 handle && lawG Tryz.prog 64 30000 3 [u8s 14 3, u8s 8 1] 0 handle) = true := by kernel_rfl
theorem runT3_0 : lawG Tryz.prog 64 30000 3 [u8s 14 3, u8s 8 0] 0 handle = true := andL (allT12)
theorem runT3_1 : lawG Tryz.prog 64 30000 3 [u8s 14 3, u8s 8 1] 0 handle = true := andR (allT12)
theorem allT13 : (lawG Tryz.prog 64 30000 3 [u8s 14 3, u8s 8 2] 0 handle && lawG Tryz.prog 64 30000 3 [u8s 14 3, u8s 8 3] 0 handle) = true := by kernel_rfl
theorem runT3_2 : lawG Tryz.prog 64 30000 3 [u8s 14 3, u8s 8 2] 0 handle = true := andL (allT13)
theorem runT3_3 : lawG Tryz.prog 64 30000 3 [u8s 14 3, u8s 8 3] 0 handle = true := andR (allT13)
theorem allT14 : (lawG Tryz.prog 64 30000 3 [u8s 14 3, u8s 8 4] 0 handle && lawG Tryz.prog 64 30000 3 [u8s 14 3, u8s 8 5] 0 handle) = true := by kernel_rfl
theorem runT3_4 : lawG Tryz.prog 64 30000 3 [u8s 14 3, u8s 8 4] 0 handle = true := andL (allT14)
theorem runT3_5 : lawG Tryz.prog 64 30000 3 [u8s 14 3, u8s 8 5] 0 handle = true := andR (allT14)
theorem allT15 : (lawG Tryz.prog 64 30000 3 [u8s 14 3, u8s 8 6] 0 handle && lawG Tryz.prog 64 30000 3 [u8s 14 3, u8s 8 7] 0 handle) = true := by kernel_rfl
theorem runT3_6 : lawG Tryz.prog 64 30000 3 [u8s 14 3, u8s 8 6] 0 handle = true := andL (allT15)
theorem runT3_7 : lawG Tryz.prog 64 30000 3 [u8s 14 3, u8s 8 7] 0 handle = true := andR (allT15)

end Go.Ex
