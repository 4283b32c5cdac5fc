/- Of the law's runs, some: one run of the executor for each choice of the arguments' residues. -/
import Derived.Test.YtbhkafbpkiagbaaGreatDoorIntr
import Derived.KernelRfl
namespace Go.Ex
open Go.Proofs

theorem allT44 : (lawG Tryz.prog 64 30000 3 [u8s 14 11, u8s 8 0] 0 handle && lawG Tryz.prog 64 30000 3 [u8s 14 11, u8s 8 1] 0 handle) = true := by kernel_rfl
theorem runT11_0 : lawG Tryz.prog 64 30000 3 [u8s 14 11, u8s 8 0] 0 handle = true := andL (allT44)
theorem runT11_1 : lawG Tryz.prog 64 30000 3 [u8s 14 11, u8s 8 1] 0 handle = true := andR (allT44)
theorem allT45 : (lawG Tryz.prog 64 30000 3 [u8s 14 11, u8s 8 2] 0 handle && lawG Tryz.prog 64 30000 3 [u8s 14 11, u8s 8 3] 0 handle) = true := by kernel_rfl
theorem runT11_2 : lawG Tryz.prog 64 30000 3 [u8s 14 11, u8s 8 2] 0 handle = true := andL (allT45)
theorem runT11_3 : lawG Tryz.prog 64 30000 3 [u8s 14 11, u8s 8 3] 0 handle = true := andR (allT45)
theorem allT46 : (lawG Tryz.prog 64 30000 3 [u8s 14 11, u8s 8 4] 0 handle && lawG Tryz.prog 64 30000 3 [u8s 14 11, u8s 8 5] 0 handle) = true := by kernel_rfl
theorem runT11_4 : lawG Tryz.prog 64 30000 3 [u8s 14 11, u8s 8 4] 0 handle = true := andL (allT46)
theorem runT11_5 : lawG Tryz.prog 64 30000 3 [u8s 14 11, u8s 8 5] 0 handle = true := andR (allT46)
theorem allT47 : (lawG Tryz.prog 64 30000 3 [u8s 14 11, u8s 8 6] 0 handle && lawG Tryz.prog 64 30000 3 [u8s 14 11, u8s 8 7] 0 handle) = true := by kernel_rfl
theorem runT11_6 : lawG Tryz.prog 64 30000 3 [u8s 14 11, u8s 8 6] 0 handle = true := andL (allT47)
theorem runT11_7 : lawG Tryz.prog 64 30000 3 [u8s 14 11, u8s 8 7] 0 handle = true := andR (allT47)

end Go.Ex
