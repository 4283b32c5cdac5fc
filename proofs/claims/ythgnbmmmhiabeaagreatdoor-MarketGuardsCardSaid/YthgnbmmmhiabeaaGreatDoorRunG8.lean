/- Of the law's runs, some: one run of the executor for each choice of the arguments' residues. -/
import Derived.Test.YthgnbmmmhiabeaaGreatDoorIntr
import Derived.KernelRfl
namespace Go.Ex
open Go.Proofs

theorem allG8 : lawG Tryz.prog 64 200000 3 [u8s 4 2, syi 0] 0 handle = true := by kernel_rfl
theorem runG2_0 : lawG Tryz.prog 64 200000 3 [u8s 4 2, syi 0] 0 handle = true := allG8

end Go.Ex
