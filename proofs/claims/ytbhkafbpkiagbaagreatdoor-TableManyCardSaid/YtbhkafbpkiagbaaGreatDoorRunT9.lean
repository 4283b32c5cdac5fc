/- Of the law's runs, some: one run of the executor for each choice of the arguments' residues. -/
import Derived.Test.YtbhkafbpkiagbaaGreatDoorIntr
import Derived.KernelRfl
namespace Go.Ex
open Go.Proofs

theorem allT36 : (lawG Tryz.prog 64 30000 3 [u8s 14 9, u8s 8 0] 0 handle && lawG Tryz.prog 64 30000 3 [u8s 14 9, u8s 8 1] 0 handle) = true := by kernel_rfl
theorem runT9_0 : lawG Tryz.prog 64 30000 3 [u8s 14 9, u8s 8 0] 0 handle = true := andL (allT36)
theorem runT9_1 : lawG Tryz.prog 64 30000 3 [u8s 14 9, u8s 8 1] 0 handle = true := andR (allT36)
theorem allT37 : (lawG Tryz.prog 64 30000 3 [u8s 14 9, u8s 8 2] 0 handle && lawG Tryz.prog 64 30000 3 [u8s 14 9, u8s 8 3] 0 handle) = true := by kernel_rfl
theorem runT9_2 : lawG Tryz.prog 64 30000 3 [u8s 14 9, u8s 8 2] 0 handle = true := andL (allT37)
theorem runT9_3 : lawG Tryz.prog 64 30000 3 [u8s 14 9, u8s 8 3] 0 handle = true := andR (allT37)
theorem allT38 : (lawG Tryz.prog 64 30000 3 [u8s 14 9, u8s 8 4] 0 handle && lawG Tryz.prog 64 30000 3 [u8s 14 9, u8s 8 5] 0 handle) = true := by kernel_rfl
theorem runT9_4 : lawG Tryz.prog 64 30000 3 [u8s 14 9, u8s 8 4] 0 handle = true := andL (allT38)
theorem runT9_5 : lawG Tryz.prog 64 30000 3 [u8s 14 9, u8s 8 5] 0 handle = true := andR (allT38)
theorem allT39 : (lawG Tryz.prog 64 30000 3 [u8s 14 9, u8s 8 6] 0 handle && lawG Tryz.prog 64 30000 3 [u8s 14 9, u8s 8 7] 0 handle) = true := by kernel_rfl
theorem runT9_6 : lawG Tryz.prog 64 30000 3 [u8s 14 9, u8s 8 6] 0 handle = true := andL (allT39)
theorem runT9_7 : lawG Tryz.prog 64 30000 3 [u8s 14 9, u8s 8 7] 0 handle = true := andR (allT39)

end Go.Ex
