/- Of the law's runs, some: one run of the executor for each choice of the arguments' residues. -/
import Derived.Test.YtbhkafbpkiagbaaGreatDoorIntr
import Derived.KernelRfl
namespace Go.Ex
open Go.Proofs

theorem allT16 : (lawG Tryz.prog 64 30000 3 [u8s 14 4, u8s 8 0] 0 handle && lawG Tryz.prog 64 30000 3 [u8s 14 4, u8s 8 1] 0 handle) = true := by kernel_rfl
theorem runT4_0 : lawG Tryz.prog 64 30000 3 [u8s 14 4, u8s 8 0] 0 handle = true := andL (allT16)
theorem runT4_1 : lawG Tryz.prog 64 30000 3 [u8s 14 4, u8s 8 1] 0 handle = true := andR (allT16)
theorem allT17 : (lawG Tryz.prog 64 30000 3 [u8s 14 4, u8s 8 2] 0 handle && lawG Tryz.prog 64 30000 3 [u8s 14 4, u8s 8 3] 0 handle) = true := by kernel_rfl
theorem runT4_2 : lawG Tryz.prog 64 30000 3 [u8s 14 4, u8s 8 2] 0 handle = true := andL (allT17)
theorem runT4_3 : lawG Tryz.prog 64 30000 3 [u8s 14 4, u8s 8 3] 0 handle = true := andR (allT17)
theorem allT18 : (lawG Tryz.prog 64 30000 3 [u8s 14 4, u8s 8 4] 0 handle && lawG Tryz.prog 64 30000 3 [u8s 14 4, u8s 8 5] 0 handle) = true := by kernel_rfl
theorem runT4_4 : lawG Tryz.prog 64 30000 3 [u8s 14 4, u8s 8 4] 0 handle = true := andL (allT18)
theorem runT4_5 : lawG Tryz.prog 64 30000 3 [u8s 14 4, u8s 8 5] 0 handle = true := andR (allT18)
theorem allT19 : (lawG Tryz.prog 64 30000 3 [u8s 14 4, u8s 8 6] 0 handle && lawG Tryz.prog 64 30000 3 [u8s 14 4, u8s 8 7] 0 handle) = true := by kernel_rfl
theorem runT4_6 : lawG Tryz.prog 64 30000 3 [u8s 14 4, u8s 8 6] 0 handle = true := andL (allT19)
theorem runT4_7 : lawG Tryz.prog 64 30000 3 [u8s 14 4, u8s 8 7] 0 handle = true := andR (allT19)

end Go.Ex
