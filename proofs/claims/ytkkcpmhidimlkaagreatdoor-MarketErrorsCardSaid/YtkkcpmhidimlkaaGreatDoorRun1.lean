/- Of the law's runs, some: one run of the executor for each choice of the arguments' residues. -/
import Derived.Test.YtkkcpmhidimlkaaGreatDoorIntr
import Derived.KernelRfl
namespace Go.Ex
open Go.Proofs

theorem run1 : lawG Tryz.prog 64 20000 3 [u8s 8 1] 0 handle = true := by kernel_rfl

end Go.Ex
