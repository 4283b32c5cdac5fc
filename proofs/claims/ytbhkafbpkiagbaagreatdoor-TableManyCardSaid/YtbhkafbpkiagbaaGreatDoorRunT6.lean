/- Of the law's runs, some: one run of the executor for each choice of the arguments' residues. -/
import Derived.Test.YtbhkafbpkiagbaaGreatDoorIntr
import Derived.KernelRfl
namespace Go.Ex
open Go.Proofs

theorem allT24 : (lawG Tryz.prog 64 30000 3 [u8s 14 6, u8s 8 0] 0 handle && lawG Tryz.prog 64 30000 3 [u8s 14 6, u8s 8 1] 0 handle) = true := by kernel_rfl
theorem runT6_0 : lawG Tryz.prog 64 30000 3 [u8s 14 6, u8s 8 0] 0 handle = true := andL (allT24)
theorem runT6_1 : lawG Tryz.prog 64 30000 3 [u8s 14 6, u8s 8 1] 0 handle = true := andR (allT24)
theorem allT25 : (lawG Tryz.prog 64 30000 3 [u8s 14 6, u8s 8 2] 0 handle && lawG Tryz.prog 64 30000 3 [u8s 14 6, u8s 8 3] 0 handle) = true := by kernel_rfl
theorem runT6_2 : lawG Tryz.prog 64 30000 3 [u8s 14 6, u8s 8 2] 0 handle = true := andL (allT25)
theorem runT6_3 : lawG Tryz.prog 64 30000 3 [u8s 14 6, u8s 8 3] 0 handle = true := andR (allT25)
theorem allT26 : (lawG Tryz.prog 64 30000 3 [u8s 14 6, u8s 8 4] 0 handle && lawG Tryz.prog 64 30000 3 [u8s 14 6, u8s 8 5] 0 handle) = true := by kernel_rfl
theorem runT6_4 : lawG Tryz.prog 64 30000 3 [u8s 14 6, u8s 8 4] 0 handle = true := andL (allT26)
theorem runT6_5 : lawG Tryz.prog 64 30000 3 [u8s 14 6, u8s 8 5] 0 handle = true := andR (allT26)
theorem allT27 : (lawG Tryz.prog 64 30000 3 [u8s 14 6, u8s 8 6] 0 handle && lawG Tryz.prog 64 30000 3 [u8s 14 6, u8s 8 7] 0 handle) = true := by kernel_rfl
theorem runT6_6 : lawG Tryz.prog 64 30000 3 [u8s 14 6, u8s 8 6] 0 handle = true := andL (allT27)
theorem runT6_7 : lawG Tryz.prog 64 30000 3 [u8s 14 6, u8s 8 7] 0 handle = true := andR (allT27)

end Go.Ex
