/- Of the law's runs, some: one run of the executor for each choice of the arguments' residues. -/
import Derived.Test.YthgnbmmmhiabeaaGreatDoorIntr
import Derived.KernelRfl
namespace Go.Ex
open Go.Proofs

theorem allG6 : lawG Tryz.prog 64 200000 3 [u8s 4 1, syi 2] 0 handle = true := by kernel_rfl
theorem runG1_2 : lawG Tryz.prog 64 200000 3 [u8s 4 1, syi 2] 0 handle = true := allG6

end Go.Ex
