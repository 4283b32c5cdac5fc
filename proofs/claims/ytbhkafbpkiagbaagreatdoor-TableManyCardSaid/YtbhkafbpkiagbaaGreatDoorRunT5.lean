/- Of the law's runs, some: one run of the executor for each choice of the arguments' residues. -/
import Derived.Test.YtbhkafbpkiagbaaGreatDoorIntr
import Derived.KernelRfl
namespace Go.Ex
open Go.Proofs

theorem allT20 : (lawG Tryz.prog 64 30000 3 [u8s 14 5, u8s 8 0] 0 handle && lawG Tryz.prog 64 30000 3 [u8s 14 5, u8s 8 1] 0 handle) = true := by kernel_rfl
theorem runT5_0 : lawG Tryz.prog 64 30000 3 [u8s 14 5, u8s 8 0] 0 handle = true := andL (allT20)
theorem runT5_1 : lawG Tryz.prog 64 30000 3 [u8s 14 5, u8s 8 1] 0 handle = true := andR (allT20)
theorem allT21 : (lawG Tryz.prog 64 30000 3 [u8s 14 5, u8s 8 2] 0 handle && lawG Tryz.prog 64 30000 3 [u8s 14 5, u8s 8 3] 0 handle) = true := by kernel_rfl
theorem runT5_2 : lawG Tryz.prog 64 30000 3 [u8s 14 5, u8s 8 2] 0 handle = true := andL (allT21)
theorem runT5_3 : lawG Tryz.prog 64 30000 3 [u8s 14 5, u8s 8 3] 0 handle = true := andR (allT21)
theorem allT22 : (lawG Tryz.prog 64 30000 3 [u8s 14 5, u8s 8 4] 0 handle && lawG Tryz.prog 64 30000 3 [u8s 14 5, u8s 8 5] 0 handle) = true := by kernel_rfl
theorem runT5_4 : lawG Tryz.prog 64 30000 3 [u8s 14 5, u8s 8 4] 0 handle = true := andL (allT22)
theorem runT5_5 : lawG Tryz.prog 64 30000 3 [u8s 14 5, u8s 8 5] 0 handle = true := andR (allT22)
theorem allT23 : (lawG Tryz.prog 64 30000 3 [u8s 14 5, u8s 8 6] 0 handle && lawG Tryz.prog 64 30000 3 [u8s 14 5, u8s 8 7] 0 handle) = true := by kernel_rfl
theorem runT5_6 : lawG Tryz.prog 64 30000 3 [u8s 14 5, u8s 8 6] 0 handle = true := andL (allT23)
theorem runT5_7 : lawG Tryz.prog 64 30000 3 [u8s 14 5, u8s 8 7] 0 handle = true := andR (allT23)

end Go.Ex
