/- Of the law's runs, some: one run of the executor for each choice of the arguments' residues. -/
import Derived.Test.YtbhkafbpkiagbaaGreatDoorIntr
import Derived.KernelRfl
namespace Go.Ex
open Go.Proofs

theorem allT40 : (lawG Tryz.prog 64 30000 3 [u8s 14 10, u8s 8 0] 0 handle && lawG Tryz.prog 64 30000 3 [u8s 14 10, u8s 8 1] 0 handle) = true := by kernel_rfl
theorem runT10_0 : lawG Tryz.prog 64 30000 3 [u8s 14 10, u8s 8 0] 0 handle = true := andL (allT40)
theorem runT10_1 : lawG Tryz.prog 64 30000 3 [u8s 14 10, u8s 8 1] 0 handle = true := andR (allT40)
theorem allT41 : (lawG Tryz.prog 64 30000 3 [u8s 14 10, u8s 8 2] 0 handle && lawG Tryz.prog 64 30000 3 [u8s 14 10, u8s 8 3] 0 handle) = true := by kernel_rfl
theorem runT10_2 : lawG Tryz.prog 64 30000 3 [u8s 14 10, u8s 8 2] 0 handle = true := andL (allT41)
theorem runT10_3 : lawG Tryz.prog 64 30000 3 [u8s 14 10, u8s 8 3] 0 handle = true := andR (allT41)
theorem allT42 : (lawG Tryz.prog 64 30000 3 [u8s 14 10, u8s 8 4] 0 handle && lawG Tryz.prog 64 30000 3 [u8s 14 10, u8s 8 5] 0 handle) = true := by kernel_rfl
theorem runT10_4 : lawG Tryz.prog 64 30000 3 [u8s 14 10, u8s 8 4] 0 handle = true := andL (allT42)
theorem runT10_5 : lawG Tryz.prog 64 30000 3 [u8s 14 10, u8s 8 5] 0 handle = true := andR (allT42)
theorem allT43 : (lawG Tryz.prog 64 30000 3 [u8s 14 10, u8s 8 6] 0 handle && lawG Tryz.prog 64 30000 3 [u8s 14 10, u8s 8 7] 0 handle) = true := by kernel_rfl
theorem runT10_6 : lawG Tryz.prog 64 30000 3 [u8s 14 10, u8s 8 6] 0 handle = true := andL (allT43)
theorem runT10_7 : lawG Tryz.prog 64 30000 3 [u8s 14 10, u8s 8 7] 0 handle = true := andR (allT43)

end Go.Ex
