/- Of the law's runs, some: one run of the executor for each choice of the arguments' residues. -/
import Derived.Test.YthgnbmmmhiabeaaGreatDoorIntr
import Derived.KernelRfl
namespace Go.Ex
open Go.Proofs

theorem allG15 : lawG Tryz.prog 64 200000 3 [u8s 4 3, syi 3] 0 handle = true := by kernel_rfl
theorem runG3_3 : lawG Tryz.prog 64 200000 3 [u8s 4 3, syi 3] 0 handle = true := allG15

end Go.Ex
