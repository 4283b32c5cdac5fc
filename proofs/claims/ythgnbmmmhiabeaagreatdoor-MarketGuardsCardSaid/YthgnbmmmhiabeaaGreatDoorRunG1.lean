/- Of the law's runs, some: one run of the executor for each choice of the arguments' residues. -/
import Derived.Test.YthgnbmmmhiabeaaGreatDoorIntr
import Derived.KernelRfl
namespace Go.Ex
open Go.Proofs

theorem allG1 : lawG Tryz.prog 64 200000 3 [u8s 4 0, syi 1] 0 handle = true := by kernel_rfl
theorem runG0_1 : lawG Tryz.prog 64 200000 3 [u8s 4 0, syi 1] 0 handle = true := allG1

end Go.Ex
