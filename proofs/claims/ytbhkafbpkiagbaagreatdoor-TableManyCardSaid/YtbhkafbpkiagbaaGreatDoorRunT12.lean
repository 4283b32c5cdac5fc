/- Of the law's runs, some: one run of the executor for each choice of the arguments' residues. -/
import Derived.Test.YtbhkafbpkiagbaaGreatDoorIntr
import Derived.KernelRfl
namespace Go.Ex
open Go.Proofs

theorem allT48 : (lawG Tryz.prog 64 30000 3 [u8s 14 12, u8s 8 0] 0 handle && lawG Tryz.prog 64 30000 3 [u8s 14 12, u8s 8 1] 0 handle) = true := by kernel_rfl
theorem runT12_0 : lawG Tryz.prog 64 30000 3 [u8s 14 12, u8s 8 0] 0 handle = true := andL (allT48)
theorem runT12_1 : lawG Tryz.prog 64 30000 3 [u8s 14 12, u8s 8 1] 0 handle = true := andR (allT48)
theorem allT49 : (lawG Tryz.prog 64 30000 3 [u8s 14 12, u8s 8 2] 0 handle && lawG Tryz.prog 64 30000 3 [u8s 14 12, u8s 8 3] 0 handle) = true := by kernel_rfl
theorem runT12_2 : lawG Tryz.prog 64 30000 3 [u8s 14 12, u8s 8 2] 0 handle = true := andL (allT49)
theorem runT12_3 : lawG Tryz.prog 64 30000 3 [u8s 14 12, u8s 8 3] 0 handle = true := andR (allT49)
theorem allT50 : (lawG Tryz.prog 64 30000 3 [u8s 14 12, u8s 8 4] 0 handle && lawG Tryz.prog 64 30000 3 [u8s 14 12, u8s 8 5] 0 handle) = true := by kernel_rfl
theorem runT12_4 : lawG Tryz.prog 64 30000 3 [u8s 14 12, u8s 8 4] 0 handle = true := andL (allT50)
theorem runT12_5 : lawG Tryz.prog 64 30000 3 [u8s 14 12, u8s 8 5] 0 handle = true := andR (allT50)
theorem allT51 : (lawG Tryz.prog 64 30000 3 [u8s 14 12, u8s 8 6] 0 handle && lawG Tryz.prog 64 30000 3 [u8s 14 12, u8s 8 7] 0 handle) = true := by kernel_rfl
theorem runT12_6 : lawG Tryz.prog 64 30000 3 [u8s 14 12, u8s 8 6] 0 handle = true := andL (allT51)
theorem runT12_7 : lawG Tryz.prog 64 30000 3 [u8s 14 12, u8s 8 7] 0 handle = true := andR (allT51)

end Go.Ex
