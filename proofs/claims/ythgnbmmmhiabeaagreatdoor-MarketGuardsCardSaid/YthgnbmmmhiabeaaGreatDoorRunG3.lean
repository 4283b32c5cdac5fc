/- Of the law's runs, some: one run of the executor for each choice of the arguments' residues. -/
import Derived.Test.YthgnbmmmhiabeaaGreatDoorIntr
import Derived.KernelRfl
namespace Go.Ex
open Go.Proofs

theorem allG3 : lawG Tryz.prog 64 200000 3 [u8s 4 0, syi 3] 0 handle = true := by kernel_rfl
theorem runG0_3 : lawG Tryz.prog 64 200000 3 [u8s 4 0, syi 3] 0 handle = true := allG3

end Go.Ex
