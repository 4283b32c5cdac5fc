/- Of the law's runs, some: one run of the executor for each choice of the arguments' residues. -/
import Derived.Test.YtbhkafbpkiagbaaGreatDoorIntr
import Derived.KernelRfl
namespace Go.Ex
open Go.Proofs

theorem allT52 : (lawG Tryz.prog 64 30000 3 [u8s 14 13, u8s 8 0] 0 handle && lawG Tryz.prog 64 30000 3 [u8s 14 13, u8s 8 1] 0 handle) = true := by kernel_rfl
theorem runT13_0 : lawG Tryz.prog 64 30000 3 [u8s 14 13, u8s 8 0] 0 handle = true := andL (allT52)
theorem runT13_1 : lawG Tryz.prog 64 30000 3 [u8s 14 13, u8s 8 1] 0 handle = true := andR (allT52)
theorem allT53 : (lawG Tryz.prog 64 30000 3 [u8s 14 13, u8s 8 2] 0 handle && lawG Tryz.prog 64 30000 3 [u8s 14 13, u8s 8 3] 0 handle) = true := by kernel_rfl
theorem runT13_2 : lawG Tryz.prog 64 30000 3 [u8s 14 13, u8s 8 2] 0 handle = true := andL (allT53)
theorem runT13_3 : lawG Tryz.prog 64 30000 3 [u8s 14 13, u8s 8 3] 0 handle = true := andR (allT53)
theorem allT54 : (lawG Tryz.prog 64 30000 3 [u8s 14 13, u8s 8 4] 0 handle && lawG Tryz.prog 64 30000 3 [u8s 14 13, u8s 8 5] 0 handle) = true := by kernel_rfl
theorem runT13_4 : lawG Tryz.prog 64 30000 3 [u8s 14 13, u8s 8 4] 0 handle = true := andL (allT54)
theorem runT13_5 : lawG Tryz.prog 64 30000 3 [u8s 14 13, u8s 8 5] 0 handle = true := andR (allT54)
theorem allT55 : (lawG Tryz.prog 64 30000 3 [u8s 14 13, u8s 8 6] 0 handle && lawG Tryz.prog 64 30000 3 [u8s 14 13, u8s 8 7] 0 handle) = true := by kernel_rfl
theorem runT13_6 : lawG Tryz.prog 64 30000 3 [u8s 14 13, u8s 8 6] 0 handle = true := andL (allT55)
theorem runT13_7 : lawG Tryz.prog 64 30000 3 [u8s 14 13, u8s 8 7] 0 handle = true := andR (allT55)

end Go.Ex
