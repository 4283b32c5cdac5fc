/- Of the law's runs, some: one run of the executor for each choice of the arguments' residues. -/
import Derived.Test.YtbhkafbpkiagbaaGreatDoorIntr
import Derived.KernelRfl
namespace Go.Ex
open Go.Proofs

theorem allT8 : (lawG Tryz.prog 64 30000 3 [u8s 14 2, u8s 8 0] 0 handle && lawG Tryz.prog 64 30000 3 [u8s 14 2, u8s 8 1] 0 handle) = true := by kernel_rfl
theorem runT2_0 : lawG Tryz.prog 64 30000 3 [u8s 14 2, u8s 8 0] 0 handle = true := andL (allT8)
theorem runT2_1 : lawG Tryz.prog 64 30000 3 [u8s 14 2, u8s 8 1] 0 handle = true := andR (allT8)
theorem allT9 : (lawG Tryz.prog 64 30000 3 [u8s 14 2, u8s 8 2] 0 handle && lawG Tryz.prog 64 30000 3 [u8s 14 2, u8s 8 3] 0 handle) = true := by kernel_rfl
theorem runT2_2 : lawG Tryz.prog 64 30000 3 [u8s 14 2, u8s 8 2] 0 handle = true := andL (allT9)
theorem runT2_3 : lawG Tryz.prog 64 30000 3 [u8s 14 2, u8s 8 3] 0 handle = true := andR (allT9)
theorem allT10 : (lawG Tryz.prog 64 30000 3 [u8s 14 2, u8s 8 4] 0 handle && lawG Tryz.prog 64 30000 3 [u8s 14 2, u8s 8 5] 0 handle) = true := by kernel_rfl
theorem runT2_4 : lawG Tryz.prog 64 30000 3 [u8s 14 2, u8s 8 4] 0 handle = true := andL (allT10)
theorem runT2_5 : lawG Tryz.prog 64 30000 3 [u8s 14 2, u8s 8 5] 0 handle = true := andR (allT10)
theorem allT11 : (lawG Tryz.prog 64 30000 3 [u8s 14 2, u8s 8 6] 0 handle && lawG Tryz.prog 64 30000 3 [u8s 14 2, u8s 8 7] 0 handle) = true := by kernel_rfl
theorem runT2_6 : lawG Tryz.prog 64 30000 3 [u8s 14 2, u8s 8 6] 0 handle = true := andL (allT11)
theorem runT2_7 : lawG Tryz.prog 64 30000 3 [u8s 14 2, u8s 8 7] 0 handle = true := andR (allT11)

end Go.Ex
