/- Of the law's runs, some: one run of the executor for each choice of the arguments' residues. -/
import Derived.Test.YthgnbmmmhiabeaaGreatDoorIntr
import Derived.KernelRfl
namespace Go.Ex
open Go.Proofs

theorem allG13 : lawG Tryz.prog 64 200000 3 [u8s 4 3, syi 1] 0 handle = true := by kernel_rfl
theorem runG3_1 : lawG Tryz.prog 64 200000 3 [u8s 4 3, syi 1] 0 handle = true := allG13

end Go.Ex
