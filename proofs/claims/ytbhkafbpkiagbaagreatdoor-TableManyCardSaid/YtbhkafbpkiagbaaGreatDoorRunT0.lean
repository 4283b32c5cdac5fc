/- Of the law's runs, some: one run of the executor for each choice of the arguments' residues. -/
import Derived.Test.YtbhkafbpkiagbaaGreatDoorIntr
import Derived.KernelRfl
namespace Go.Ex
open Go.Proofs

theorem allT0 : (lawG Tryz.prog 64 30000 3 [u8s 14 0, u8s 8 0] 0 handle && lawG Tryz.prog 64 30000 3 [u8s 14 0, u8s 8 1] 0 handle) = true := by kernel_rfl
theorem runT0_0 : lawG Tryz.prog 64 30000 3 [u8s 14 0, u8s 8 0] 0 handle = true := andL (allT0)
theorem runT0_1 : lawG Tryz.prog 64 30000 3 [u8s 14 0, u8s 8 1] 0 handle = true := andR (allT0)
theorem allT1 : (lawG Tryz.prog 64 30000 3 [u8s 14 0, u8s 8 2] 0 handle && lawG Tryz.prog 64 30000 3 [u8s 14 0, u8s 8 3] 0 handle) = true := by kernel_rfl
theorem runT0_2 : lawG Tryz.prog 64 30000 3 [u8s 14 0, u8s 8 2] 0 handle = true := andL (allT1)
theorem runT0_3 : lawG Tryz.prog 64 30000 3 [u8s 14 0, u8s 8 3] 0 handle = true := andR (allT1)
theorem allT2 : (lawG Tryz.prog 64 30000 3 [u8s 14 0, u8s 8 4] 0 handle && lawG Tryz.prog 64 30000 3 [u8s 14 0, u8s 8 5] 0 handle) = true := by kernel_rfl
theorem runT0_4 : lawG Tryz.prog 64 30000 3 [u8s 14 0, u8s 8 4] 0 handle = true := andL (allT2)
theorem runT0_5 : lawG Tryz.prog 64 30000 3 [u8s 14 0, u8s 8 5] 0 handle = true := andR (allT2)
theorem allT3 : (lawG Tryz.prog 64 30000 3 [u8s 14 0, u8s 8 6] 0 handle && lawG Tryz.prog 64 30000 3 [u8s 14 0, u8s 8 7] 0 handle) = true := by kernel_rfl
theorem runT0_6 : lawG Tryz.prog 64 30000 3 [u8s 14 0, u8s 8 6] 0 handle = true := andL (allT3)
theorem runT0_7 : lawG Tryz.prog 64 30000 3 [u8s 14 0, u8s 8 7] 0 handle = true := andR (allT3)

end Go.Ex
