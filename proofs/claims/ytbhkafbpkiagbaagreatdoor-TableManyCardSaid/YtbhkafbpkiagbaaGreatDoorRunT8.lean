/- Of the law's runs, some: one run of the executor for each choice of the arguments' residues. -/
import Derived.Test.YtbhkafbpkiagbaaGreatDoorIntr
import Derived.KernelRfl
namespace Go.Ex
open Go.Proofs

theorem allT32 : (lawG Tryz.prog 64 30000 3 [u8s 14 8, u8s 8 0] 0 handle && lawG Tryz.prog 64 30000 3 [u8s 14 8, u8s 8 1] 0 handle) = true := by kernel_rfl
theorem runT8_0 : lawG Tryz.prog 64 30000 3 [u8s 14 8, u8s 8 0] 0 handle = true := andL (allT32)
theorem runT8_1 : lawG Tryz.prog 64 30000 3 [u8s 14 8, u8s 8 1] 0 handle = true := andR (allT32)
theorem allT33 : (lawG Tryz.prog 64 30000 3 [u8s 14 8, u8s 8 2] 0 handle && lawG Tryz.prog 64 30000 3 [u8s 14 8, u8s 8 3] 0 handle) = true := by kernel_rfl
theorem runT8_2 : lawG Tryz.prog 64 30000 3 [u8s 14 8, u8s 8 2] 0 handle = true := andL (allT33)
theorem runT8_3 : lawG Tryz.prog 64 30000 3 [u8s 14 8, u8s 8 3] 0 handle = true := andR (allT33)
theorem allT34 : (lawG Tryz.prog 64 30000 3 [u8s 14 8, u8s 8 4] 0 handle && lawG Tryz.prog 64 30000 3 [u8s 14 8, u8s 8 5] 0 handle) = true := by kernel_rfl
theorem runT8_4 : lawG Tryz.prog 64 30000 3 [u8s 14 8, u8s 8 4] 0 handle = true := andL (allT34)
theorem runT8_5 : lawG Tryz.prog 64 30000 3 [u8s 14 8, u8s 8 5] 0 handle = true := andR (allT34)
theorem allT35 : (lawG Tryz.prog 64 30000 3 [u8s 14 8, u8s 8 6] 0 handle && lawG Tryz.prog 64 30000 3 [u8s 14 8, u8s 8 7] 0 handle) = true := by kernel_rfl
theorem runT8_6 : lawG Tryz.prog 64 30000 3 [u8s 14 8, u8s 8 6] 0 handle = true := andL (allT35)
theorem runT8_7 : lawG Tryz.prog 64 30000 3 [u8s 14 8, u8s 8 7] 0 handle = true := andR (allT35)

end Go.Ex
